/- Lemmas towards the statement: the engine of the walks, the functions' models, laws and walks, part 6. Conditions: as each states. -/
import Derived.Shelf.Strings.Builder1
import Derived.Shelf.Strings.Repeat
import Derived.Test.YtpccbnppcepepaaGreatProg
import Derived.Test.YtpccbnppcepepaaGreatWfE
set_option linter.all false
set_option maxRecDepth 100000
set_option maxRecDepth 100000
set_option maxHeartbeats 4000000
namespace Go.Eng
open Go.Proofs Go.RowKit
noncomputable def ZCi:FuncId×Con:=(69,⟨[.int .u64,.int .u64,.int .u64],[.int .u64,.int .u64],fun p=>ZIc p.1 p.2.1 p.2.2⟩)
theorem sub64_k:Zw Tryz.prog ZCi.1 ZCi.2:=fun w v vals x z _ ha hz=>by
 obtain ⟨c0,w0,e0,p0,c1,w1,e1,p1,c2,e2,p2⟩:=ha
 subst e0 e1 e2
 obtain ⟨rfl,h0⟩:=p0
 obtain ⟨rfl,h1⟩:=p1
 obtain ⟨rfl,h2⟩:=p2
 have p0:(Zc .u64).rel v [.int .u64 x.1] x.1:=⟨rfl,h0⟩
 have p1:(Zc .u64).rel v [.int .u64 x.2.1] x.2.1:=⟨rfl,h1⟩
 exact .inr ⟨.tuple #[.int .u64 z.1,.int .u64 z.2],fun w=>Zvm (show Zle Tryz.prog 69 Zfi from ⟨_,Tryz.func69,by kernel_rfl,by kernel_rfl,by kernel_rfl,by kernel_rfl⟩) p0.2 p1.2 hz w,_,rfl,_,_,rfl,⟨rfl,Zlo hz⟩,_,rfl,⟨rfl,ZOn hz⟩⟩
end Go.Eng
set_option maxRecDepth 100000
set_option maxHeartbeats 4000000
namespace Go.Eng
open Go.Proofs Go.RowKit
noncomputable def ZLh:FuncId×Con:=(43,⟨[.leaf 0,.leaf 0],[.leaf 0],fun p=>ZUf p.1 p.2⟩)
theorem minus_i (a:Nat) (b:Nat):Zy ⟨Tryz.prog,[(32,0)],[ZYd,ZCi],[],[],[],[]⟩ [] Tryz.f43 (.two .no (.two .no (.two .no (.two (.two .no (.cut ⟨⟨[],[],[]⟩,[(.norm,⟨[],[],[.s 5 (.own 80 (.int .u64))]⟩)]⟩ (.two (.cut ⟨⟨[1,13,14],[],[.s 5 (.own 80 (.int .u64)),.s 6 (.dat (.int .u64)),.s 15 (.dat (.int .i64))]⟩,[(.exit 0,⟨[],[],[.s 5 (.own 80 (.int .u64))]⟩)]⟩ (.two (.two .no (.two .no (.two (.two (.two .no (.two .no (.two (.two .no (.cut ⟨⟨[],[],[]⟩,[(.norm,⟨[1,5,6,7,8,13,14,15],[],[.s 9 (.dat (.int .u64))]⟩)]⟩ .no)) .no))) .no) .no))) .no)) .no))) .no)))) [.leaf 0,.leaf 0] [.leaf 0] (a,b)=Z1i a b:=by kernel_rfl
theorem minus_k:Zw Tryz.prog ZLh.1 ZLh.2:=ZD (C:=⟨Tryz.prog,[(32,0)],[ZYd,ZCi],[],[],[],[]⟩) ⟨cut_k,sub64_k,trivial⟩ trivial trivial trivial (inl:=[]) trivial (ann:=.two .no (.two .no (.two .no (.two (.two .no (.cut ⟨⟨[],[],[]⟩,[(.norm,⟨[],[],[.s 5 (.own 80 (.int .u64))]⟩)]⟩ (.two (.cut ⟨⟨[1,13,14],[],[.s 5 (.own 80 (.int .u64)),.s 6 (.dat (.int .u64)),.s 15 (.dat (.int .i64))]⟩,[(.exit 0,⟨[],[],[.s 5 (.own 80 (.int .u64))]⟩)]⟩ (.two (.two .no (.two .no (.two (.two (.two .no (.two .no (.two (.two .no (.cut ⟨⟨[],[],[]⟩,[(.norm,⟨[1,5,6,7,8,13,14,15],[],[.s 9 (.dat (.int .u64))]⟩)]⟩ .no)) .no))) .no) .no))) .no)) .no))) .no)))) Tryz.func43 (fun _ _=>by kernel_rfl) rfl fun v vals x z ha hz=>(minus_i x.1 x.2).trans (ZPs hz)
end Go.Eng
set_option maxRecDepth 100000
set_option maxHeartbeats 4000000
namespace Go.Eng
open Go.Proofs Go.RowKit
noncomputable def Zvj:FuncId×Con:=(19,⟨[.leaf 2,.leaf 2],[.leaf 2],fun p=>ZRg p.1 p.2⟩)
theorem iplus_i (x:Int) (y:Int):Zy ⟨Tryz.prog,[(32,0),(34,2),(36,3)],[Zag,Zic,Zwi,ZLh],[],[],[],[]⟩ [] Tryz.f19 .no [.leaf 2,.leaf 2] [.leaf 2] (x,y)=Zkl x y:=by kernel_rfl
theorem iplus_k:Zw Tryz.prog Zvj.1 Zvj.2:=ZD (C:=⟨Tryz.prog,[(32,0),(34,2),(36,3)],[Zag,Zic,Zwi,ZLh],[],[],[],[]⟩) ⟨cmp_k,ZEh,plus_k,minus_k,trivial⟩ trivial trivial trivial (inl:=[]) trivial (ann:=.no) Tryz.func19 (fun _ _=>by kernel_rfl) rfl fun v vals x z ha hz=>(iplus_i x.1 x.2).trans (ZVt hz)
end Go.Eng
set_option maxRecDepth 100000
set_option maxHeartbeats 4000000
namespace Go.Eng
open Go.Proofs Go.RowKit
noncomputable def Z9b:FuncId×Con:=(6,⟨[.leaf 3,.leaf 3],[.leaf 3],fun p=>ZH p.1 p.2⟩)
theorem qadd_i (x:Rat) (y:Rat):Zy ⟨Tryz.prog,[(32,0),(34,2),(36,3)],[ZCe,Zme,ZNf,Zvj,Zhc],[],[],[],[]⟩ [] Tryz.f6 .no [.leaf 3,.leaf 3] [.leaf 3] (x,y)=ZOk x y:=by kernel_rfl
theorem Zuh:Zw Tryz.prog Z9b.1 Z9b.2:=ZD (C:=⟨Tryz.prog,[(32,0),(34,2),(36,3)],[ZCe,Zme,ZNf,Zvj,Zhc],[],[],[],[]⟩) ⟨Zjk,Zpl,ZTm,iplus_k,Zdh,trivial⟩ trivial trivial trivial (inl:=[]) trivial (ann:=.no) Tryz.func6 (fun _ _=>by kernel_rfl) rfl fun v vals x z ha hz=>(qadd_i x.1 x.2).trans (ZIr hz)
end Go.Eng
set_option maxRecDepth 100000
set_option maxHeartbeats 4000000
namespace Go.Eng
open Go.Proofs Go.RowKit
noncomputable def ZNh:FuncId×Con:=(94,⟨[.leaf 2],[.leaf 2],fun p=>Zyh p⟩)
theorem Zdt (x:Int):Zy ⟨Tryz.prog,[(32,0),(34,2),(36,3)],[Zic],[],[],[],[]⟩ [] Tryz.f94 .no [.leaf 2] [.leaf 2] (x)=ZKk x:=by kernel_rfl
theorem Zdq:Zw Tryz.prog ZNh.1 ZNh.2:=ZD (C:=⟨Tryz.prog,[(32,0),(34,2),(36,3)],[Zic],[],[],[],[]⟩) ⟨ZEh,trivial⟩ trivial trivial trivial (inl:=[]) trivial (ann:=.no) Tryz.func94 (fun _ _=>by kernel_rfl) rfl fun v vals x z ha hz=>(Zdt x).trans (Z1r hz)
end Go.Eng
set_option maxRecDepth 100000
set_option maxHeartbeats 4000000
namespace Go.Eng
open Go.Proofs Go.RowKit
noncomputable def ZIe:FuncId×Con:=(70,⟨[.leaf 3],[.leaf 3],fun p=>ZHd p⟩)
theorem qneg_i (x:Rat):Zy ⟨Tryz.prog,[(32,0),(34,2),(36,3)],[ZNh],[],[],[],[]⟩ [] Tryz.f70 .no [.leaf 3] [.leaf 3] (x)=Z5j x:=by kernel_rfl
theorem Z6k:Zw Tryz.prog ZIe.1 ZIe.2:=ZD (C:=⟨Tryz.prog,[(32,0),(34,2),(36,3)],[ZNh],[],[],[],[]⟩) ⟨Zdq,trivial⟩ trivial trivial trivial (inl:=[]) trivial (ann:=.no) Tryz.func70 (fun _ _=>by kernel_rfl) rfl fun v vals x z ha hz=>(qneg_i x).trans (Zhq hz)
end Go.Eng
set_option maxRecDepth 100000
set_option maxHeartbeats 4000000
namespace Go.Eng
open Go.Proofs Go.RowKit
noncomputable def ZWc:FuncId×Con:=(47,⟨[.leaf 3,.leaf 3],[.leaf 3],fun p=>Zbd p.1 p.2⟩)
theorem qsub_i (x:Rat) (y:Rat):Zy ⟨Tryz.prog,[(32,0),(34,2),(36,3)],[Z9b,ZIe],[],[],[],[]⟩ [] Tryz.f47 .no [.leaf 3,.leaf 3] [.leaf 3] (x,y)=Z3k x y:=by kernel_rfl
theorem ZLj:Zw Tryz.prog ZWc.1 ZWc.2:=ZD (C:=⟨Tryz.prog,[(32,0),(34,2),(36,3)],[Z9b,ZIe],[],[],[],[]⟩) ⟨Zuh,Z6k,trivial⟩ trivial trivial trivial (inl:=[]) trivial (ann:=.no) Tryz.func47 (fun _ _=>by kernel_rfl) rfl fun v vals x z ha hz=>(qsub_i x.1 x.2).trans (Z7p hz)
end Go.Eng
set_option maxRecDepth 100000
set_option maxHeartbeats 4000000
namespace Go.Eng
open Go.Proofs Go.RowKit
noncomputable def Zji:FuncId×Con:=(56,⟨[.slice (.slice (.int .i64))],[.int .i64,.int .i64],fun p=>ZLk p⟩)
theorem table_i (t:(List (List Int))):Zy ⟨Tryz.prog,[(32,0),(34,2),(36,3)],[],[],[],[],[]⟩ [(82,Tryz.f82,.cut ⟨⟨[],[],[]⟩,[(.ret,⟨[],[],[.s 0 (.dat .bool)]⟩)]⟩ .no),(83,Tryz.f83,.cut ⟨⟨[],[],[]⟩,[(.ret,⟨[],[],[.s 0 (.dat .bool)]⟩)]⟩ .no),(99,Tryz.f99,.cut ⟨⟨[],[],[]⟩,[(.ret,⟨[],[],[.s 0 (.dat (.int .i64))]⟩)]⟩ (.two .no (.two (.two .no (.cut ⟨⟨[],[],[]⟩,[(.norm,⟨[],[],[]⟩),(.ret,⟨[],[],[.s 0 (.dat (.int .i64))]⟩)]⟩ (.two (.cut ⟨⟨[0,1,7],[],[.s 8 (.dat (.int .i64))]⟩,[(.ret,⟨[],[],[.s 0 (.dat (.int .i64))]⟩),(.exit 0,⟨[],[],[]⟩)]⟩ .no) .no))) .no)))] Tryz.f56 (.two .no (.two (.two (.cut ⟨⟨[],[],[]⟩,[(.norm,⟨[],[],[.s 1 (.box 57 (.dat (.slice (.slice (.int .i64))))),.s 21 (.dat .bool)]⟩)]⟩ .no) .no) (.two .no (.two (.two .no (.cut ⟨⟨[],[],[]⟩,[(.norm,⟨[],[],[.s 4 (.dat (.int .i64))]⟩),(.ret,⟨[],[],[.s 0 (.dat (.int .i64)),.s 0 (.dat (.int .i64))]⟩)]⟩ (.two (.cut ⟨⟨[22,23],[],[.s 4 (.dat (.int .i64)),.s 24 (.dat (.int .i64))]⟩,[(.ret,⟨[],[],[.s 0 (.dat (.int .i64)),.s 0 (.dat (.int .i64))]⟩),(.exit 0,⟨[],[],[.s 4 (.dat (.int .i64))]⟩)]⟩ (.two (.two .no (.two .no (.two (.two (.two .no (.two .no (.cut ⟨⟨[],[],[]⟩,[(.norm,⟨[22,23,24],[],[.s 4 (.dat (.int .i64))]⟩),(.ret,⟨[],[],[.s 0 (.dat (.int .i64)),.s 0 (.dat (.int .i64))]⟩)]⟩ (.two (.cut ⟨⟨[22,23,24,28,29],[],[.s 4 (.dat (.int .i64)),.s 30 (.dat (.int .i64))]⟩,[(.ret,⟨[],[],[.s 0 (.dat (.int .i64)),.s 0 (.dat (.int .i64))]⟩),(.exit 2,⟨[22,23,24],[],[.s 4 (.dat (.int .i64))]⟩)]⟩ (.two (.two .no (.two .no (.two (.two (.two .no (.two (.two (.cut ⟨⟨[],[],[]⟩,[(.norm,⟨[4,8,22,23,24,28,29,30],[],[.s 39 (.dat .bool)]⟩)]⟩ .no) .no) .no)) .no) .no))) .no)) .no)))) .no) .no))) .no)) .no))) .no)))) [.slice (.slice (.int .i64))] [.int .i64,.int .i64] (t)=ZLk t:=by kernel_rfl
theorem table_k:Zw Tryz.prog Zji.1 Zji.2:=ZD (C:=⟨Tryz.prog,[(32,0),(34,2),(36,3)],[],[],[],[],[]⟩) trivial trivial trivial trivial (inl:=[(82,Tryz.f82,.cut ⟨⟨[],[],[]⟩,[(.ret,⟨[],[],[.s 0 (.dat .bool)]⟩)]⟩ .no),(83,Tryz.f83,.cut ⟨⟨[],[],[]⟩,[(.ret,⟨[],[],[.s 0 (.dat .bool)]⟩)]⟩ .no),(99,Tryz.f99,.cut ⟨⟨[],[],[]⟩,[(.ret,⟨[],[],[.s 0 (.dat (.int .i64))]⟩)]⟩ (.two .no (.two (.two .no (.cut ⟨⟨[],[],[]⟩,[(.norm,⟨[],[],[]⟩),(.ret,⟨[],[],[.s 0 (.dat (.int .i64))]⟩)]⟩ (.two (.cut ⟨⟨[0,1,7],[],[.s 8 (.dat (.int .i64))]⟩,[(.ret,⟨[],[],[.s 0 (.dat (.int .i64))]⟩),(.exit 0,⟨[],[],[]⟩)]⟩ .no) .no))) .no)))]) ⟨⟨Tryz.func82,fun _ _=>by kernel_rfl⟩,⟨Tryz.func83,fun _ _=>by kernel_rfl⟩,⟨Tryz.func99,fun _ _=>by kernel_rfl⟩,trivial⟩ (ann:=.two .no (.two (.two (.cut ⟨⟨[],[],[]⟩,[(.norm,⟨[],[],[.s 1 (.box 57 (.dat (.slice (.slice (.int .i64))))),.s 21 (.dat .bool)]⟩)]⟩ .no) .no) (.two .no (.two (.two .no (.cut ⟨⟨[],[],[]⟩,[(.norm,⟨[],[],[.s 4 (.dat (.int .i64))]⟩),(.ret,⟨[],[],[.s 0 (.dat (.int .i64)),.s 0 (.dat (.int .i64))]⟩)]⟩ (.two (.cut ⟨⟨[22,23],[],[.s 4 (.dat (.int .i64)),.s 24 (.dat (.int .i64))]⟩,[(.ret,⟨[],[],[.s 0 (.dat (.int .i64)),.s 0 (.dat (.int .i64))]⟩),(.exit 0,⟨[],[],[.s 4 (.dat (.int .i64))]⟩)]⟩ (.two (.two .no (.two .no (.two (.two (.two .no (.two .no (.cut ⟨⟨[],[],[]⟩,[(.norm,⟨[22,23,24],[],[.s 4 (.dat (.int .i64))]⟩),(.ret,⟨[],[],[.s 0 (.dat (.int .i64)),.s 0 (.dat (.int .i64))]⟩)]⟩ (.two (.cut ⟨⟨[22,23,24,28,29],[],[.s 4 (.dat (.int .i64)),.s 30 (.dat (.int .i64))]⟩,[(.ret,⟨[],[],[.s 0 (.dat (.int .i64)),.s 0 (.dat (.int .i64))]⟩),(.exit 2,⟨[22,23,24],[],[.s 4 (.dat (.int .i64))]⟩)]⟩ (.two (.two .no (.two .no (.two (.two (.two .no (.two (.two (.cut ⟨⟨[],[],[]⟩,[(.norm,⟨[4,8,22,23,24,28,29,30],[],[.s 39 (.dat .bool)]⟩)]⟩ .no) .no) .no)) .no) .no))) .no)) .no)))) .no) .no))) .no)) .no))) .no)))) Tryz.func56 (fun _ _=>by kernel_rfl) rfl fun v vals x z ha hz=>(table_i x).trans (hz)
end Go.Eng
set_option maxRecDepth 100000
set_option maxHeartbeats 4000000
namespace Go.Eng
open Go.Proofs Go.RowKit
noncomputable def ZXc:FuncId×Con:=(13,⟨[.leaf 3],[.bool],fun p=>ZSb p⟩)
theorem qzero_i (x:Rat):Zy ⟨Tryz.prog,[(32,0),(34,2),(36,3)],[],[],[],[],[]⟩ [] Tryz.f13 .no [.leaf 3] [.bool] (x)=ZCk x:=by kernel_rfl
theorem Zmi:Zw Tryz.prog ZXc.1 ZXc.2:=ZD (C:=⟨Tryz.prog,[(32,0),(34,2),(36,3)],[],[],[],[],[]⟩) trivial trivial trivial trivial (inl:=[]) trivial (ann:=.no) Tryz.func13 (fun _ _=>by kernel_rfl) rfl fun v vals x z ha hz=>(qzero_i x).trans (Z6p hz)
end Go.Eng
set_option maxRecDepth 100000
set_option maxHeartbeats 4000000
namespace Go.Eng
open Go.Proofs Go.RowKit
noncomputable def ZEe:FuncId×Con:=(58,⟨[.leaf 3,.leaf 3],[.leaf 3,.int .i64],fun p=>Z1d p.1 p.2⟩)
theorem qdiv_i (x:Rat) (y:Rat):Zy ⟨Tryz.prog,[(32,0),(34,2),(36,3)],[ZXc,ZCe,Zme,ZNf,Zhc,Zic],[],[],[],[]⟩ [] Tryz.f58 (.two .no (.two .no (.two (.cut ⟨⟨[],[],[]⟩,[(.norm,⟨[2,3,4],[],[.s 6 (.box 34 (.dat (.leaf 2)))]⟩)]⟩ .no) .no))) [.leaf 3,.leaf 3] [.leaf 3,.int .i64] (x,y)=Zkk x y:=by kernel_rfl
theorem Z7k:Zw Tryz.prog ZEe.1 ZEe.2:=ZD (C:=⟨Tryz.prog,[(32,0),(34,2),(36,3)],[ZXc,ZCe,Zme,ZNf,Zhc,Zic],[],[],[],[]⟩) ⟨Zmi,Zjk,Zpl,ZTm,Zdh,ZEh,trivial⟩ trivial trivial trivial (inl:=[]) trivial (ann:=.two .no (.two .no (.two (.cut ⟨⟨[],[],[]⟩,[(.norm,⟨[2,3,4],[],[.s 6 (.box 34 (.dat (.leaf 2)))]⟩)]⟩ .no) .no))) Tryz.func58 (fun _ _=>by kernel_rfl) rfl fun v vals x z ha hz=>(qdiv_i x.1 x.2).trans (ZDs hz)
end Go.Eng
set_option maxRecDepth 100000
set_option maxHeartbeats 4000000
namespace Go.Eng
open Go.Proofs Go.RowKit
noncomputable def ZXh:FuncId×Con:=(100,⟨[.leaf 2,.leaf 2],[.leaf 2],fun p=>ZJh p.1 p.2⟩)
theorem ZFs (x:Int) (y:Int):Zy ⟨Tryz.prog,[(32,0),(34,2),(36,3)],[Zhc,Zic],[],[],[],[]⟩ [] Tryz.f100 .no [.leaf 2,.leaf 2] [.leaf 2] (x,y)=Zjl x y:=by kernel_rfl
theorem Zws:Zw Tryz.prog ZXh.1 ZXh.2:=ZD (C:=⟨Tryz.prog,[(32,0),(34,2),(36,3)],[Zhc,Zic],[],[],[],[]⟩) ⟨Zdh,ZEh,trivial⟩ trivial trivial trivial (inl:=[]) trivial (ann:=.no) Tryz.func100 (fun _ _=>by kernel_rfl) rfl fun v vals x z ha hz=>(ZFs x.1 x.2).trans (Zks hz)
end Go.Eng
set_option maxRecDepth 100000
set_option maxHeartbeats 4000000
namespace Go.Eng
open Go.Proofs Go.RowKit
noncomputable def Zxe:FuncId×Con:=(84,⟨[.leaf 3,.leaf 3],[.leaf 3],fun p=>Zbc p.1 p.2⟩)
theorem qmul_i (x:Rat) (y:Rat):Zy ⟨Tryz.prog,[(32,0),(34,2),(36,3)],[ZCe,Zme,Zhc,ZXh],[],[],[],[]⟩ [] Tryz.f84 .no [.leaf 3,.leaf 3] [.leaf 3] (x,y)=ZNk x y:=by kernel_rfl
theorem ZMk:Zw Tryz.prog Zxe.1 Zxe.2:=ZD (C:=⟨Tryz.prog,[(32,0),(34,2),(36,3)],[ZCe,Zme,Zhc,ZXh],[],[],[],[]⟩) ⟨Zjk,Zpl,Zdh,Zws,trivial⟩ trivial trivial trivial (inl:=[]) trivial (ann:=.no) Tryz.func84 (fun _ _=>by kernel_rfl) rfl fun v vals x z ha hz=>(qmul_i x.1 x.2).trans (Zxt hz)
end Go.Eng
set_option maxRecDepth 100000
set_option maxHeartbeats 4000000
namespace Go.Eng
open Go.Proofs Go.RowKit
noncomputable def Zdi:FuncId×Con:=(85,⟨[.leaf 3,.leaf 3],[.leaf 3],fun p=>Zsi p.1 p.2⟩)
theorem tby_i (x:Rat) (y:Rat):Zy ⟨Tryz.prog,[(32,0),(34,2),(36,3)],[ZEe],[],[],[],[]⟩ [] Tryz.f85 .no [.leaf 3,.leaf 3] [.leaf 3] (x,y)=Zsi x y:=by kernel_rfl
theorem tby_k:Zw Tryz.prog Zdi.1 Zdi.2:=ZD (C:=⟨Tryz.prog,[(32,0),(34,2),(36,3)],[ZEe],[],[],[],[]⟩) ⟨Z7k,trivial⟩ trivial trivial trivial (inl:=[]) trivial (ann:=.no) Tryz.func85 (fun _ _=>by kernel_rfl) rfl fun v vals x z ha hz=>(tby_i x.1 x.2).trans (hz)
end Go.Eng
set_option maxRecDepth 100000
set_option maxHeartbeats 4000000
namespace Go.Eng
open Go.Proofs Go.RowKit
noncomputable def Zzi:FuncId×Con:=(14,⟨[.slice (.slice (.int .i64))],[.leaf 3,.int .i64],fun p=>Zrk p⟩)
theorem kappa_i (t:(List (List Int))):Zy ⟨Tryz.prog,[(32,0),(34,2),(36,3)],[Zyj,Z2c,ZWc,Zji,ZEe,Z9b,Zxe,Zdi],[],[],[],[]⟩ [(34,Tryz.f34,.cut ⟨⟨[],[],[]⟩,[(.ret,⟨[],[],[.s 0 (.dat (.leaf 3)),.s 0 (.dat (.int .i64))]⟩)]⟩ (.two .no (.two .no (.two .no (.two .no (.two (.cut ⟨⟨[],[],[]⟩,[(.norm,⟨[4],[],[.s 7 (.dat (.int .i64)),.s 10 (.box 36 (.dat (.leaf 3)))]⟩)]⟩ .no) .no)))))),(57,Tryz.f57,.cut ⟨⟨[],[],[]⟩,[(.ret,⟨[],[],[.s 0 (.dat (.leaf 3)),.s 0 (.dat (.leaf 3))]⟩)]⟩ (.two .no (.two (.cut ⟨⟨[],[],[]⟩,[(.norm,⟨[0,1,2,6,7],[],[.s 8 (.own 3 (.int .i64)),.s 9 (.own 3 (.int .i64))]⟩)]⟩ .no) (.two (.two .no (.cut ⟨⟨[],[],[]⟩,[(.norm,⟨[0,1,2,6,7],[],[.s 8 (.own 3 (.int .i64)),.s 9 (.own 3 (.int .i64))]⟩)]⟩ (.two (.cut ⟨⟨[0,1,2,6,7,24,25],[],[.s 8 (.own 3 (.int .i64)),.s 9 (.own 3 (.int .i64)),.s 26 (.dat (.int .i64))]⟩,[(.exit 0,⟨[0,1,2,6,7],[],[.s 8 (.own 3 (.int .i64)),.s 9 (.own 3 (.int .i64))]⟩)]⟩ (.two (.two .no (.two .no (.two (.two (.two .no (.two .no (.cut ⟨⟨[],[],[]⟩,[(.norm,⟨[0,1,2,6,7,24,25,26],[],[.s 8 (.own 3 (.int .i64)),.s 9 (.own 3 (.int .i64))]⟩)]⟩ (.two (.cut ⟨⟨[0,1,2,6,7,10,24,25,26,31,32],[],[.s 8 (.own 3 (.int .i64)),.s 9 (.own 3 (.int .i64)),.s 33 (.dat (.int .i64))]⟩,[(.exit 2,⟨[0,1,2,6,7,24,25,26],[],[.s 8 (.own 3 (.int .i64)),.s 9 (.own 3 (.int .i64))]⟩)]⟩ .no) .no)))) .no) .no))) .no)) .no))) (.two (.two .no (.cut ⟨⟨[],[],[]⟩,[(.norm,⟨[1,6,7],[],[.l (.sl 6) (.box 36 (.dat (.leaf 3))),.l (.sl 7) (.box 36 (.dat (.leaf 3)))]⟩)]⟩ (.two (.cut ⟨⟨[1,2,6,7,8,9,54,55],[],[.l (.sl 6) (.box 36 (.dat (.leaf 3))),.l (.sl 7) (.box 36 (.dat (.leaf 3))),.s 56 (.dat (.int .i64))]⟩,[(.exit 4,⟨[1,6,7],[],[.l (.sl 6) (.box 36 (.dat (.leaf 3))),.l (.sl 7) (.box 36 (.dat (.leaf 3)))]⟩)]⟩ (.two (.two .no (.two .no (.two (.two (.two .no (.two .no (.cut ⟨⟨[],[],[]⟩,[(.norm,⟨[1,2,6,7,8,9,54,55,56],[],[.l (.sl 6) (.box 36 (.dat (.leaf 3))),.l (.sl 7) (.box 36 (.dat (.leaf 3)))]⟩)]⟩ (.two (.cut ⟨⟨[1,2,6,7,8,9,14,54,55,56,61,62],[],[.l (.sl 6) (.box 36 (.dat (.leaf 3))),.l (.sl 7) (.box 36 (.dat (.leaf 3))),.s 63 (.dat (.int .i64))]⟩,[(.exit 6,⟨[1,2,6,7,8,9,54,55,56],[],[.l (.sl 6) (.box 36 (.dat (.leaf 3))),.l (.sl 7) (.box 36 (.dat (.leaf 3)))]⟩)]⟩ .no) .no)))) .no) .no))) .no)) .no))) .no)))))] Tryz.f14 .no [.slice (.slice (.int .i64))] [.leaf 3,.int .i64] (t)=Zrk t:=by kernel_rfl
theorem kappa_k:Zw Tryz.prog Zzi.1 Zzi.2:=ZD (C:=⟨Tryz.prog,[(32,0),(34,2),(36,3)],[Zyj,Z2c,ZWc,Zji,ZEe,Z9b,Zxe,Zdi],[],[],[],[]⟩) ⟨tsame_k,ZKi,ZLj,table_k,Z7k,Zuh,ZMk,tby_k,trivial⟩ trivial trivial trivial (inl:=[(34,Tryz.f34,.cut ⟨⟨[],[],[]⟩,[(.ret,⟨[],[],[.s 0 (.dat (.leaf 3)),.s 0 (.dat (.int .i64))]⟩)]⟩ (.two .no (.two .no (.two .no (.two .no (.two (.cut ⟨⟨[],[],[]⟩,[(.norm,⟨[4],[],[.s 7 (.dat (.int .i64)),.s 10 (.box 36 (.dat (.leaf 3)))]⟩)]⟩ .no) .no)))))),(57,Tryz.f57,.cut ⟨⟨[],[],[]⟩,[(.ret,⟨[],[],[.s 0 (.dat (.leaf 3)),.s 0 (.dat (.leaf 3))]⟩)]⟩ (.two .no (.two (.cut ⟨⟨[],[],[]⟩,[(.norm,⟨[0,1,2,6,7],[],[.s 8 (.own 3 (.int .i64)),.s 9 (.own 3 (.int .i64))]⟩)]⟩ .no) (.two (.two .no (.cut ⟨⟨[],[],[]⟩,[(.norm,⟨[0,1,2,6,7],[],[.s 8 (.own 3 (.int .i64)),.s 9 (.own 3 (.int .i64))]⟩)]⟩ (.two (.cut ⟨⟨[0,1,2,6,7,24,25],[],[.s 8 (.own 3 (.int .i64)),.s 9 (.own 3 (.int .i64)),.s 26 (.dat (.int .i64))]⟩,[(.exit 0,⟨[0,1,2,6,7],[],[.s 8 (.own 3 (.int .i64)),.s 9 (.own 3 (.int .i64))]⟩)]⟩ (.two (.two .no (.two .no (.two (.two (.two .no (.two .no (.cut ⟨⟨[],[],[]⟩,[(.norm,⟨[0,1,2,6,7,24,25,26],[],[.s 8 (.own 3 (.int .i64)),.s 9 (.own 3 (.int .i64))]⟩)]⟩ (.two (.cut ⟨⟨[0,1,2,6,7,10,24,25,26,31,32],[],[.s 8 (.own 3 (.int .i64)),.s 9 (.own 3 (.int .i64)),.s 33 (.dat (.int .i64))]⟩,[(.exit 2,⟨[0,1,2,6,7,24,25,26],[],[.s 8 (.own 3 (.int .i64)),.s 9 (.own 3 (.int .i64))]⟩)]⟩ .no) .no)))) .no) .no))) .no)) .no))) (.two (.two .no (.cut ⟨⟨[],[],[]⟩,[(.norm,⟨[1,6,7],[],[.l (.sl 6) (.box 36 (.dat (.leaf 3))),.l (.sl 7) (.box 36 (.dat (.leaf 3)))]⟩)]⟩ (.two (.cut ⟨⟨[1,2,6,7,8,9,54,55],[],[.l (.sl 6) (.box 36 (.dat (.leaf 3))),.l (.sl 7) (.box 36 (.dat (.leaf 3))),.s 56 (.dat (.int .i64))]⟩,[(.exit 4,⟨[1,6,7],[],[.l (.sl 6) (.box 36 (.dat (.leaf 3))),.l (.sl 7) (.box 36 (.dat (.leaf 3)))]⟩)]⟩ (.two (.two .no (.two .no (.two (.two (.two .no (.two .no (.cut ⟨⟨[],[],[]⟩,[(.norm,⟨[1,2,6,7,8,9,54,55,56],[],[.l (.sl 6) (.box 36 (.dat (.leaf 3))),.l (.sl 7) (.box 36 (.dat (.leaf 3)))]⟩)]⟩ (.two (.cut ⟨⟨[1,2,6,7,8,9,14,54,55,56,61,62],[],[.l (.sl 6) (.box 36 (.dat (.leaf 3))),.l (.sl 7) (.box 36 (.dat (.leaf 3))),.s 63 (.dat (.int .i64))]⟩,[(.exit 6,⟨[1,2,6,7,8,9,54,55,56],[],[.l (.sl 6) (.box 36 (.dat (.leaf 3))),.l (.sl 7) (.box 36 (.dat (.leaf 3)))]⟩)]⟩ .no) .no)))) .no) .no))) .no)) .no))) .no)))))]) ⟨⟨Tryz.func34,fun _ _=>by kernel_rfl⟩,⟨Tryz.func57,fun _ _=>by kernel_rfl⟩,trivial⟩ (ann:=.no) Tryz.func14 (fun _ _=>by kernel_rfl) rfl fun v vals x z ha hz=>(kappa_i x).trans (hz)
end Go.Eng
namespace Go.Eng
open Go.Proofs Go.RowKit
theorem ZZs {r:World} {d:Zb} (hv:VIn d r) {D:List Value} {n:Int} (L:Rep.rel (Zc .u64) d D n) {z:(List UInt8)} (H:ZQj n=some z):Ret Tryz.prog 60 #[(Zc .u64).val D] r d (fun y v'=>∃ E,y=ZTa.val E∧ZTa.rel v' E z):=by
 obtain ⟨rfl,M⟩:=L;refine Zrb (K:=20) (args:=[.int .u64 n]) hv Tryz.func60 rfl rfl zl fun f S=>?_;unfold ZQj at H;refine sr (mw S rfl fun f S=>oe (sr (Zen S wn rfl zl (cs:=[.int .u8 0,.int .u8 0,.int .u8 0,.int .u8 0,.int .u8 0,.int .u8 0,.int .u8 0,.int .u8 0,.int .u8 0,.int .u8 0,.int .u8 0,.int .u8 0,.int .u8 0,.int .u8 0,.int .u8 0,.int .u8 0,.int .u8 0,.int .u8 0,.int .u8 0,.int .u8 0]) (ZDl k_zv133) fun s f w S=>?_)));have S:=S.boxOwn 1 20 rfl zl;have N:Rep.rels (Zc .u8) d [.int .u8 0,.int .u8 0,.int .u8 0,.int .u8 0,.int .u8 0,.int .u8 0,.int .u8 0,.int .u8 0,.int .u8 0,.int .u8 0,.int .u8 0,.int .u8 0,.int .u8 0,.int .u8 0,.int .u8 0,.int .u8 0,.int .u8 0,.int .u8 0,.int .u8 0,.int .u8 0] (List.replicate 20 (0:Int)):=Zmd (show Rep.rel (Zc .u8) _ [Value.int .u8 0] 0 from ⟨rfl,by decide⟩) 20;refine oe (sr (mw S rfl fun f S=>oe (Zi fun _ O=>?_)));obtain ⟨P,Q,R⟩:=ZF H;refine Zla (fun f w=>∃ l m B t,(l,m)=P∧Zb.le d t∧St 20 r d [(3,.pointer (some ⟨s,0,none⟩)),(4,.int .i64 m)] [Loc.own (some s) 133 1 20 20 B] t f w∧Rep.rels (Zc .u8) t B l∧20=l.length∧inR .i64 m) (fun _ T=>?_) ?_
 ·have H:=Q;refine wp_block ?_;obtain ⟨ak,U,V⟩:=ZF H;refine Zfb U (fun W f w=>∃ h o u b k,(h,o,u)=W∧Zb.le d k∧St 20 r d [(0,.int .u64 o),(3,.pointer (some ⟨s,0,none⟩)),(4,.int .i64 u)] [Loc.own (some s) 133 1 20 20 b] k f w∧Rep.rels (Zc .u8) k b h∧20=h.length∧inR .u64 o∧inR .i64 u) ⟨_,_,_,[.int .u8 0,.int .u8 0,.int .u8 0,.int .u8 0,.int .u8 0,.int .u8 0,.int .u8 0,.int .u8 0,.int .u8 0,.int .u8 0,.int .u8 0,.int .u8 0,.int .u8 0,.int .u8 0,.int .u8 0,.int .u8 0,.int .u8 0,.int .u8 0,.int .u8 0,.int .u8 0],_,rfl,(leR _),(S.fr' rfl),N,(List.length_replicate (n:=20) (a:=(0:Int))).symm,M,(by decide)⟩ ?_;rintro _ f w st ⟨h,o,u,b,k,hq,F,S,C,v,al,X⟩ H am Y Z;subst hq;refine Zi fun _ aa=>sr (mv S rfl fun f S=>ov S rfl (Ze S rfl rfl Zuc) fun f S=>oe ?_);rcases ZJ (decide ((0:Int)<o)) with p | p
  ·have H:=ZK H p;refine ZQ S rfl p (wp_skip (Zf (aa _ _ (Zi fun _ ab=>wp_block (Zi fun _ ac=>bO H fun e G H=>Zp (mv S rfl fun f S=>ov S rfl (Ze S rfl rfl (Zta G)) fun f S=>mw S rfl fun f S=>Zn (Zf (ac _ _ (bO H fun g ad H=>?_)))))))));refine bO H fun an q H=>Zp (mv S rfl fun f S=>mv S rfl fun f S=>ov S rfl (Ze S rfl rfl (Z0d ad)) fun f S=>ov S rfl (Ze S rfl rfl ZCb) fun f S=>ov S rfl (Zed S rfl (ZAm _)) fun f S=>?_);have I:=Zha C (Zg q).2.1;obtain ⟨ao,ae⟩:∃ c,(List.take (Zc .u8).n (List.drop ((e).toNat*(Zc .u8).n) b))=c:=⟨_,rfl⟩;rw [ae] at I;obtain ⟨rfl,ap⟩:=I;refine ov S rfl (ZFo S Zgp rfl rfl (Zg q).1 (ltI v (Zg q).2.2.1)) fun f S=>?_;obtain ⟨w,af,S⟩:=ZBb S k_sz5 (off:=0+(e).toNat*1) (z:=.int .u8 (IntKind.u8.wrap (IntKind.u64.wrap ((48:Int)+g)))) (cs:=[.int .u8 (IntKind.u8.wrap (IntKind.u64.wrap ((48:Int)+g)))]) (Zkb rfl) rfl (i:=0) rfl (Zad S (j:=0) rfl (ltN v (Zg q).2.2.2)) (by first | rfl | simp [plain]);have ag:Rep.rels (Zc .u8) k (List.take (0+(e).toNat*1) b++[Value.int IntKind.u8 (IntKind.u8.wrap (IntKind.u64.wrap ((48:Int)+g)))]++List.drop (0+(e).toNat*1+1) b) (h.set (e).toNat (IntKind.u8.wrap (IntKind.u64.wrap ((48:Int)+g)))):=Zvc C (Zg q).2.2.2 (show Rep.rel (Zc .u8) k [.int .u8 (IntKind.u8.wrap (IntKind.u64.wrap ((48:Int)+g)))] _ from (ZC (Zia _ _))) rfl rfl
   have ah:20=(h.set (e).toNat (IntKind.u8.wrap (IntKind.u64.wrap ((48:Int)+g)))).length:=ZRc v;refine Z8e wn rfl (af rfl rfl) (Zn (Zdb (Zf (ab _ _ (bO H fun aq J H=>Zp (mv S rfl fun f S=>ov S rfl (Ze S rfl rfl (ZQb J)) fun f S=>mw S rfl fun f S=>Zn ?_))))));obtain rfl:=Zl H;refine Y _ rfl _ _ ⟨_,_,_,(List.take (0+(e).toNat*1) b++[Value.int IntKind.u8 (IntKind.u8.wrap (IntKind.u64.wrap ((48:Int)+g)))]++List.drop (0+(e).toNat*1+1) b),_,rfl,F,(S.fr' rfl),ag,ah,(ZUg J),(Zna G).2⟩
  have H:=ZL H p;refine ZM S rfl p (wp_exit (ZZ ?_));obtain rfl:=Zl H;have hq:=Z _ rfl;subst hq;have H:=V;refine ZZ (ZQa ?_);obtain rfl:=Zl H;refine Zf (T _ _ ⟨_,_,b,_,rfl,(leT (leR _) F),(S.fr' rfl),C,v,X⟩)
 rintro f w ⟨l,m,B,t,hq,ar,S,ai,x,au⟩;subst hq;have H:=R;refine Zf (O _ _ (Zi fun _ aj=>bO H fun av A H=>Zp (mv S rfl fun f S=>ov S rfl (ZNs S Zgp rfl rfl (ZGc A).1 (by have:=(ZGc A).2.1;have:=x;omega)) fun f S=>ov S rfl (ZOq S (j:=0) rfl ai x (by have:=(ZGc A).2.1;have:=(ZGc A).1;have:=x;omega) rfl Tryz.underlying109 Tryz.underlying5 Tryz.underlying9) fun f S=>mw S rfl fun f S=>Zn (Zf (aj _ _ (wp_ret ?_))))));obtain rfl:=Zl H;refine Zxa S (ZFa rfl (ZR S rfl)) ⟨[.string (Zs ((ZUc (l.drop ((m).toNat)))))],rfl,(Z4g (by have:=x;simp only [Z7r,List.length_drop];unfold maxLen;omega))⟩
theorem Zys {b:World} {a:Zb} (hv:VIn a b) {c:List Value} {n:Int} (d:Rep.rel (Zc .u64) a c n) {z:(List UInt8)} (hm:Zjg n=some z) :
  Ret Tryz.prog 60 #[(Zc .u64).val c] b a (fun y v'=>∃ e,y=ZTa.val e∧ZTa.rel v' e z) :=
 ZZs hv d (Zkt d.2 hm)
end Go.Eng
namespace Go.Proofs
open Go.Shelf
def Tryz.lays105_ren:Go.Shelf.Ren:=⟨fun | 105=>61 | 212=>87 | 99=>88 | 165=>89 | 166=>62 | 170=>90 | 169=>63 | 263=>101 | 264=>44 | 206=>102 | 240=>91 | 241=>103 | 276=>104 | 277=>106 | n=>n,fun | 9=>9 | 3=>3 | 4=>4 | 20=>20 | 0=>0 | 46=>119 | 109=>134 | 5=>5 | 72=>111 | 76=>114 | 51=>145 | 146=>146 | 53=>80 | 148=>84 | 70=>108 | 37=>109 | 75=>113 | 127=>138 | 164=>148 | 80=>58 | n=>n,fun | n=>n⟩
theorem Tryz.lays105:Go.Proofs.Lays.n105 Tryz.prog Tryz.lays105_ren:={
 mixed:=by kernel_rfl
 f99:=Tryz.func88.trans (congrArg some (by kernel_rfl))
 f105:=Tryz.func61.trans (congrArg some (by kernel_rfl))
 f165:=Tryz.func89.trans (congrArg some (by kernel_rfl))
 f166:=Tryz.func62.trans (congrArg some (by kernel_rfl))
 f169:=Tryz.func63.trans (congrArg some (by kernel_rfl))
 f170:=Tryz.func90.trans (congrArg some (by kernel_rfl))
 f206:=Tryz.func102.trans (congrArg some (by kernel_rfl))
 f212:=Tryz.func87.trans (congrArg some (by kernel_rfl))
 f240:=Tryz.func91.trans (congrArg some (by kernel_rfl))
 f241:=Tryz.func103.trans (congrArg some (by kernel_rfl))
 f263:=Tryz.func101.trans (congrArg some (by kernel_rfl))
 f264:=Tryz.func44.trans (congrArg some (by kernel_rfl))
 f276:=Tryz.func104.trans (congrArg some (by kernel_rfl))
 f277:=Tryz.func106.trans (congrArg some (by kernel_rfl))
 t0:=Tryz.underlying0
 a0:=Tryz.isAgg0
 z0:=Tryz.sizeOf0
 v0:=Tryz.zeroValue0
 t3:=Tryz.underlying3
 a3:=Tryz.isAgg3
 z3:=Tryz.sizeOf3
 v3:=Tryz.zeroValue3
 t4:=Tryz.underlying4
 a4:=Tryz.isAgg4
 z4:=Tryz.sizeOf4
 v4:=Tryz.zeroValue4
 t5:=Tryz.underlying5
 a5:=Tryz.isAgg5
 z5:=Tryz.sizeOf5
 v5:=Tryz.zeroValue5
 t9:=Tryz.underlying9
 a9:=Tryz.isAgg9
 z9:=Tryz.sizeOf9
 v9:=Tryz.zeroValue9
 t20:=Tryz.underlying20
 a20:=Tryz.isAgg20
 z20:=Tryz.sizeOf20
 v20:=Tryz.zeroValue20
 t37:=Tryz.underlying109
 a37:=Tryz.isAgg109
 z37:=Tryz.sizeOf109
 v37:=Tryz.zeroValue109
 t46:=Tryz.underlying119
 a46:=Tryz.isAgg119
 z46:=Tryz.sizeOf119
 v46:=Tryz.zeroValue119
 t51:=Tryz.underlying145
 a51:=Tryz.isAgg145
 z51:=Tryz.sizeOf145
 v51:=Tryz.zeroValue145
 t53:=Tryz.underlying80
 a53:=Tryz.isAgg80
 z53:=Tryz.sizeOf80
 v53:=Tryz.zeroValue80
 t70:=Tryz.underlying108
 a70:=Tryz.isAgg108
 z70:=Tryz.sizeOf108
 v70:=Tryz.zeroValue108
 t72:=Tryz.underlying111
 a72:=Tryz.isAgg111
 z72:=Tryz.sizeOf111
 v72:=Tryz.zeroValue111
 t75:=Tryz.underlying113
 a75:=Tryz.isAgg113
 z75:=Tryz.sizeOf113
 v75:=Tryz.zeroValue113
 t76:=Tryz.underlying114
 a76:=Tryz.isAgg114
 z76:=Tryz.sizeOf114
 v76:=Tryz.zeroValue114
 t109:=Tryz.underlying134
 a109:=Tryz.isAgg134
 z109:=Tryz.sizeOf134
 v109:=Tryz.zeroValue134
 t127:=Tryz.underlying138
 a127:=Tryz.isAgg138
 z127:=Tryz.sizeOf138
 v127:=Tryz.zeroValue138
 t146:=Tryz.underlying146
 a146:=Tryz.isAgg146
 z146:=Tryz.sizeOf146
 v146:=Tryz.zeroValue146
 t148:=Tryz.underlying84
 a148:=Tryz.isAgg84
 z148:=Tryz.sizeOf84
 v148:=Tryz.zeroValue84
 t164:=Tryz.underlying148
 a164:=Tryz.isAgg148
 z164:=Tryz.sizeOf148
 v164:=Tryz.zeroValue148 }
theorem Tryz.Builder_Extra_105:Builder.Extra Tryz.prog Tryz.lays105_ren:={
 sizeBuilder:=by kernel_rfl
 liesBuilder:=by kernel_rfl
 t5:=Tryz.underlying5
 a5:=Tryz.isAgg5
 z5:=Tryz.sizeOf5
 v5:=Tryz.zeroValue5
 infoByte:=by kernel_rfl
 cellsByte:=by kernel_rfl
 sizeByte:=by kernel_rfl
 neB5:=by decide }
end Go.Proofs
namespace Go.Eng
open Go.Proofs Go.RowKit Go.Shelf
theorem writes:ZXo Tryz.prog 62 111 5:=fun B b bs s w h hl hB=>Any.Builder_WriteString { Tryz.lays105 with } Tryz.Builder_Extra_105 B b bs s w h hl hB
theorem tells:Tells Tryz.prog 63 111 5:=fun B b l w h hB=>Any.Builder_String_any { Tryz.lays105 with } Tryz.Builder_Extra_105 B b l w h hB
end Go.Eng
namespace Go.Eng
open Go.Proofs Go.RowKit
theorem Z6r (l:List UInt8) (c:Nat):Lib.repeatL l c=(List.replicate c l).flatten:=by
 induction c with
 | zero=>rfl
 | succ c ih=>simp [Lib.repeatL,List.replicate_succ,ih]
theorem Z3r {b:World} {a:Zb} (hv:VIn a b) {f:List Value} {s:List UInt8} (k:Rep.rel ZTa a f s) {g:List Value} {c:Int} (l:Rep.rel (Zc .i64) a g c) {z:List UInt8} (hm:ZGf s c=some z) :
  Ret Tryz.prog 61 #[ZTa.val f,(Zc .i64).val g] b a (fun y v'=>∃ h,y=ZTa.val h∧ZTa.rel v' h z):=by
 obtain ⟨rfl,hs⟩:=k;obtain ⟨rfl,hc⟩:=l;unfold ZGf at hm;split at hm
 ·rename_i hh
  cases hm
  obtain ⟨C,rfl⟩:=Int.eq_ofNat_of_zero_le hh.1;have hc:=ZZb.1 hc;have d:=hh.2;rw [Int.toNat_natCast] at d;have:=Any.strings_Repeat Tryz.lays105 Tryz.Builder_Extra_105 (Zs s) C b (by omega) (by rw [ZDc];exact d);refine Calls.mono this fun e w' ⟨i,j⟩=>?_;have m:(⟨(Lib.repeatL (Zs s).data.toList C).toArray⟩:ByteArray)=Zs (List.replicate C s).flatten:=by
   rw [Z6r];rfl
  rw [m] at i;exact ⟨_,a,i,j,VStep.ext hv j,[.string (Zs (List.replicate C s).flatten)],rfl,rfl,by simp only [Int.toNat_natCast];rw [List.length_flatten];simp;unfold maxLen;rw [Nat.mul_comm] at d;omega⟩
 ·cases hm
theorem text_w {e:World} {c:Zb} (hv:VIn c e) {c0:List Value} {a:Nat} (p0:Rep.rel Zr c c0 a) {z:(List UInt8)} (H:Zyg a=some z):Ret Tryz.prog 36 #[Zr.val c0] e c (fun y v'=>∃ r0,y=ZTa.val r0∧ZTa.rel v' r0 z):=by
 obtain ⟨q1,n2,k3,rfl⟩:=Zda p0;refine Zrb (K:=49) (args:=[.slice q1 n2 k3]) hv Tryz.func36 rfl rfl zl fun f S=>?_;unfold Zyg at H;refine sr (mw S rfl fun f S=>oe (sr ?_));have S:=S.nilLoc 9 1;refine ov S rfl (Z3c S (y:=.slice (mkA none) 0 0) rfl) fun f S=>oe (Zi fun _ ar=>?_);obtain ⟨au,av,aw⟩:=ZF H;refine Zla (fun f w=>∃ o F s G U I,o=au∧Zb.le c I∧St 49 e c [(3,.slice (mkA F) s G)] [Loc.own F 9 1 s G U] I f w∧Rep.rels ZTa I U o∧s=o.length) (fun _ ax=>?_) ?_
 ·have H:=av;refine wp_block ?_;obtain ⟨bs,ay,az⟩:=ZF H;refine Zfb ay (fun aA f w=>∃ J g L M N p h q k t,(J,g)=aA∧Zb.le c t∧St 49 e c [(0,.slice L M N),(3,.slice (mkA p) h q)] [Loc.own p 9 1 h q k] t f w∧Rep.rel Zr t [.slice L M N] J∧Rep.rels ZTa t k g∧h=g.length) ⟨_,_,_,_,_,none,0,0,[],_,rfl,(leR _),(S.fr' rfl),p0,ZPd,rfl⟩ ?_;rintro _ f w st ⟨J,g,L,M,N,p,h,q,k,t,hq,ac,S,ad,d,ae⟩ H bt aB aC;subst hq;refine Zi fun _ aD=>sr (mv S rfl fun f S=>ov S rfl (Z9 S (ZI ad) rfl rfl ZB) fun f S=>ov S rfl (Ze S rfl rfl Zuc) fun f S=>oe ?_);rcases ZJ (decide ((0:Int)<(((Zd 18446744073709551616 J)).length:Int))) with u | u
  ·have H:=ZK H u;refine ZQ S rfl u (wp_skip (Zf (aD _ _ (wp_block (Zi fun _ aE=>bO H fun O aF H=>Zp (mv S rfl fun f S=>opc S rfl (Z7 S [.slice L M N,.int .u64 10000000000000000000] ZUo rfl rfl) (ZLm S.vin ad (show Rep.rel (Zc .u64) _ [.int .u64 10000000000000000000] (10000000000000000000:Int) from (ZC (by decide))) aF) ?_))))));rintro _ bu f w af ⟨bv,bw,rfl,m,aG⟩ S;have d:=ZU af d;obtain ⟨aH,aI,aJ,rfl⟩:=Zda m;obtain ⟨rfl,aK⟩:=aG;refine mv S rfl fun f S=>ov S rfl (Zpa S rfl rfl) fun f S=>ov S rfl (Zpa S rfl rfl) fun f S=>mw S rfl fun f S=>mw S rfl fun f S=>Zn (Zf (aE _ _ (Zi fun _ aL=>bO H fun bx aM H=>Zp (mv S rfl fun f S=>opc S rfl (Z7 S [.int .u64 (O.2)] k_en60 rfl rfl) (Zys S.vin (show Rep.rel (Zc .u64) _ [.int .u64 (O.2)] O.2 from (ZC aK)) aM) ?_))));rintro _ aN f w V ⟨bz,rfl,aO⟩ S;have d:=ZU V d;obtain ⟨rfl,aP⟩:=aO;refine mw S rfl fun f S=>Zn (Zf (aL _ _ (Zi fun _ aQ=>sr (mv S rfl fun f S=>?_))));have m:=Z8 V m;refine ov S rfl (Z9 S (ZI m) rfl rfl ZB) fun f S=>ov S rfl (Ze S rfl rfl Zuc) fun f S=>oe ?_;obtain ⟨aR,aS,aT⟩:=ZF H;refine Zla (fun f w=>∃ b P,b=aR∧Zb.le aN P∧St 49 e c [(3,.slice (mkA p) h q),(4,.slice aH aI aJ),(6,.string (Zs b))] [Loc.own p 9 1 h q k] P f w∧b.length≤maxLen) (fun _ ag=>?_) ?_
   ·have H:=aS;rcases ZJ (decide ((0:Int)<(((Zd 18446744073709551616 O.1)).length:Int))) with v | v
    ·have H:=ZK H v;refine ZQ S rfl v (bO H fun W ah H=>bO H fun bA aU H=>bO H fun bB ai H=>Zp (mv S rfl fun f S=>ov S rfl (Z4m S rfl rfl Tryz.underlying9) fun f S=>ov S rfl (Ze S rfl rfl (Zta ah)) fun f S=>opc S rfl (Z7 S [.string (Zs (([48]:List UInt8))),.int .i64 W] k_en61 rfl rfl) (Z3r S.vin (show Rep.rel ZTa _ [.string (Zs (([48]:List UInt8)))] (([48]:List UInt8)) from (Z4g zl)) (show Rep.rel (Zc .i64) _ [.int .i64 W] W from (ZC (Zna ah).2)) aU) ?_));rintro _ bC f w aj ⟨bD,rfl,aV⟩ S;have d:=ZU aj d;obtain ⟨rfl,bE⟩:=aV;refine mv S rfl fun f S=>ov S rfl (Zvi S rfl rfl (ZWl ai)) fun f S=>mw S rfl fun f S=>Zn ?_;obtain rfl:=Zl H;refine Zf (ag _ _ ⟨_,_,rfl,(leT (leR _) aj),(S.fr' rfl),(Z8h ai)⟩)
    have H:=ZL H v;refine ZM S rfl v (wp_skip ?_);obtain rfl:=Zl H;refine Zf (ag _ _ ⟨_,_,rfl,(leR _),(S.fr' rfl),aP⟩)
   rintro f w ⟨b,P,hq,X,S,aW⟩;subst hq;have H:=aT;have d:=ZU X d;refine Zf (aQ _ _ (bO H fun bG aX H=>Zp (mv S rfl fun f S=>mv S rfl fun f S=>?_)));obtain ⟨bH,w,aY,S⟩:=Z7e S (n:=1) (cs:=[.string (Zs b)]) (vals:=[(0,.string (Zs b))]) (sz:=1) rfl (by decide) (ZVl Z2n (x:=.string (Zs b)) (cs:=[.string (Zs b)]) rfl rfl (by decide));have Y:Rep.rels ZTa P [.string (Zs b)] [b]:=(Zck (Z4g aW) ZPd);refine Zhb wn rfl zl (aY rfl) S fun f S=>?_;have aZ:=S;obtain ⟨ak,al,w,a0,S⟩:=Zxi (ty:=103) Z2n S (i:=1) (n':=(g++[b]).length) rfl (ZGd Y rfl) (ZVh S (j:=0) rfl) (ZIi Y) (appN ae rfl) (Zqd aX) (by decide);have a1:=Zlc d Y;refine Zhb wn rfl zl (ZOd aZ rfl rfl a0) S fun f S=>mv S rfl fun f S=>mw S rfl fun f S=>mw S rfl fun f S=>Zn (Zdb ?_);obtain rfl:=Zl H;have S:=S.reorder (ℓ':=[Loc.own ak 9 1 ((g++[b]).length) al ((k++[.string (Zs b)]))]) [1] rfl (by decide);have m:=Z8 X m;refine aB _ rfl _ _ ⟨_,_,_,_,_,ak,(g++[b]).length,al,(k++[.string (Zs b)]),_,rfl,(leT (leT (leT ac af) V) X),(S.fr' rfl),m,a1,rfl⟩
  have H:=ZL H u;refine ZM S rfl u (wp_exit (ZZ ?_));obtain rfl:=Zl H;have hq:=aC _ rfl;subst hq;have H:=az;refine ZZ (ZQa ?_);obtain rfl:=Zl H;refine Zf (ax _ _ ⟨_,p,h,q,k,_,rfl,(leT (leR _) ac),(S.fr' rfl),d,ae⟩)
 rintro f w ⟨o,F,s,G,U,I,hq,bI,S,a2,am⟩;subst hq;have H:=aw;refine Zf (ar _ _ (Zi fun _ a3=>sr (mv S rfl fun f S=>ov S rfl (Z9 S am rfl rfl Zll) fun f S=>ov S rfl (Ze S rfl rfl Zsd) fun f S=>oe ?_)));rcases ZJ (((o.length:Int))==(0:Int)) with B | B
 ·have H:=ZK H B;refine ZQ S rfl B (sr (mw S rfl fun f S=>oe (wp_ret (ZNa ?_))));obtain rfl:=Zl H;refine Zxa S (ZFa rfl (ZR S rfl)) ⟨[.string (Zs (([48]:List UInt8)))],rfl,(Z4g zl)⟩
 have H:=ZL H B;refine ZM S rfl B (wp_skip (Zf (a3 _ _ (sr ?_))));obtain ⟨an,bJ,S,C⟩:=S.pubSlice (i:=0) (A:=ZTa) (l:=o) (ℓ':=[]) rfl rfl am a2 rfl;refine op_newB 5 S wn rfl zl (ZDl k_zv111) fun r f w S a4=>oe (Zi fun _ a5=>Zi fun _ a6=>bO H fun bK ao H=>Zp (mv S rfl fun f S=>ov S rfl (Z9 S (ZI C) rfl rfl Zll) fun f S=>ov S rfl (Ze S rfl rfl (Zta ao)) fun f S=>mw S rfl fun f S=>Zn (Zf (a6 _ _ ?_))));obtain ⟨a7,a8,a9⟩:=ZF H;refine Zla (fun f w=>∃ Q R,Q=a7∧Zb.le an R∧St 49 e c [(7,.pointer (some ⟨r,0,none⟩))] [] R f w∧Bld 111 5 r e R Q w) (fun _ ba=>?_) ?_
 ·have H:=a8;refine wp_block ?_;obtain ⟨bM,bb,bc⟩:=ZF H;refine Zfb bb (fun bd f w=>∃ Z D T,(Z,D)=bd∧Zb.le an T∧St 49 e c [(3,.slice (mkA F) s G),(7,.pointer (some ⟨r,0,none⟩)),(8,.int .i64 D)] [] T f w∧Bld 111 5 r e T Z w∧inR .i64 D) ⟨_,_,_,rfl,(leR _),(S.fr' rfl),a4,(Zna ao).2⟩ ?_;rintro _ f w st ⟨Z,D,T,hq,aa,S,ap,bP⟩ H bQ be bf;subst hq;refine Zi fun _ bg=>sr (mv S rfl fun f S=>ov S rfl (Ze S rfl rfl Z2b) fun f S=>oe ?_);rcases ZJ (decide ((0:Int)≤D)) with E | E
  ·have H:=ZK H E;refine ZQ S rfl E (wp_skip (Zf (bg _ _ (Zi fun _ bh=>wp_block (bO H fun bi ab H=>bO H fun bR bj H=>Zp (mv S rfl fun f S=>mv S rfl fun f S=>?_))))));have C:=Z8 aa C;obtain ⟨_,bS,bT,bU,bk,bm,bn⟩:=ZWa C (Zg ab).2.1;obtain ⟨rfl,rfl⟩:=Zes bk;obtain ⟨rfl,bV⟩:=bn;refine ov S rfl (ZN S rfl rfl Zll (Zg ab).1 (ltI (ZI C) (Zg ab).2.2.1)) fun f S=>ov S rfl (Zea S rfl k_sz9 (S.view bm)) fun f S=>Zkq writes ap (Ziq bj) S wn rfl zl (Z7 S [.pointer (some ⟨r,0,none⟩),.string (Zs bi)] k_en62 rfl rfl) fun f w S bo=>Zn (Zdb (Zf (bh _ _ (bO H fun bW aq H=>Zp (mv S rfl fun f S=>ov S rfl (Ze S rfl rfl (Zta aq)) fun f S=>mw S rfl fun f S=>Zn ?_)))));obtain rfl:=Zl H;refine be _ rfl _ _ ⟨_,_,_,rfl,aa,(S.fr' rfl),bo,(Zna aq).2⟩
  have H:=ZL H E;refine ZM S rfl E (wp_exit (ZZ ?_));obtain rfl:=Zl H;have hq:=bf _ rfl;subst hq;have H:=bc;refine ZZ (ZQa ?_);obtain rfl:=Zl H;refine Zf (ba _ _ ⟨_,_,rfl,(leT (leR _) aa),(S.fr' rfl),ap⟩)
 rintro f w ⟨Q,R,hq,bX,S,bp⟩;subst hq;have H:=a9;refine Zf (a5 _ _ (Zi fun _ bq=>bO H fun bY br H=>Zp (op_tell tells bp S wn rfl zl (Z7 S [.pointer (some ⟨r,0,none⟩)] k_en63 rfl rfl) fun f w S=>mw S rfl fun f S=>Zn (Zf (bq _ _ (wp_ret ?_))))));obtain rfl:=Zl H;refine Zxa S (ZFa rfl (ZR S rfl)) ⟨[.string (Zs Q)],rfl,(Z4g (Z8h br))⟩
theorem text_c {c:World} {b:Zb} (hv:VIn b c) {d:List Value} {a:Nat} (f:Rep.rel Zr b d a) {z:(List UInt8)} (hm:ZOe a=some z) :
  Ret Tryz.prog 36 #[Zr.val d] c b (fun y v'=>∃ e,y=ZTa.val e∧ZTa.rel v' e z) :=
 text_w hv f (ZGr hm)
end Go.Eng
set_option maxRecDepth 100000
set_option maxHeartbeats 4000000
namespace Go.Eng
open Go.Proofs Go.RowKit
noncomputable def Znj:FuncId×Con:=(36,⟨[.leaf 0],[.str],fun p=>ZOe p⟩)
theorem text_k:Zw Tryz.prog Znj.1 Znj.2:=fun w v vals x z hv ha hz=>by
 obtain ⟨c0,e0,p0⟩:=ha;subst e0
 exact .inl ⟨fun _ _=>by kernel_rfl,Ret.mono (text_c hv p0 hz) fun y v' _ ⟨r0,e,h0⟩=>⟨r0,e,h0⟩⟩
end Go.Eng
set_option maxRecDepth 100000
set_option maxHeartbeats 4000000
namespace Go.Eng
open Go.Proofs Go.RowKit
noncomputable def Zcj:FuncId×Con:=(15,⟨[.leaf 3],[.str],fun p=>Zeg p⟩)
theorem qtext_i (x:Rat):Zy ⟨Tryz.prog,[(32,0),(34,2),(36,3)],[Znj],[],[],[],[]⟩ [] Tryz.f15 (.two .no (.two .no (.two (.two .no (.cut ⟨⟨[],[],[]⟩,[(.norm,⟨[1],[],[.s 3 (.dat .str)]⟩)]⟩ .no)) (.two (.two .no (.cut ⟨⟨[],[],[]⟩,[(.norm,⟨[],[],[.s 3 (.dat .str)]⟩)]⟩ .no)) .no)))) [.leaf 3] [.str] (x)=Zml x:=by kernel_rfl
theorem qtext_k:Zw Tryz.prog Zcj.1 Zcj.2:=ZD (C:=⟨Tryz.prog,[(32,0),(34,2),(36,3)],[Znj],[],[],[],[]⟩) ⟨text_k,trivial⟩ trivial trivial trivial (inl:=[]) trivial (ann:=.two .no (.two .no (.two (.two .no (.cut ⟨⟨[],[],[]⟩,[(.norm,⟨[1],[],[.s 3 (.dat .str)]⟩)]⟩ .no)) (.two (.two .no (.cut ⟨⟨[],[],[]⟩,[(.norm,⟨[],[],[.s 3 (.dat .str)]⟩)]⟩ .no)) .no)))) Tryz.func15 (fun _ _=>by kernel_rfl) rfl fun v vals x z ha hz=>(qtext_i x).trans (ZCs hz)
end Go.Eng
set_option maxRecDepth 100000
set_option maxHeartbeats 4000000
namespace Go.Eng
open Go.Proofs Go.RowKit
noncomputable def Zti:FuncId×Con:=(5,⟨[],[.bool],fun _=>ZWe⟩)
theorem ZXp  : Zy ⟨Tryz.prog,[(32,0),(34,2),(36,3)],[Zzi,Zcj],[],[],[],[]⟩ [] Tryz.f5 (.two .no (.two .no (.two (.cut ⟨⟨[],[],[]⟩,[(.norm,⟨[],[],[.s 0 (.dat .bool)]⟩)]⟩ .no) .no))) [] [.bool] ()=ZWe  := by kernel_rfl
theorem Zlq:Zw Tryz.prog Zti.1 Zti.2:=ZD (C:=⟨Tryz.prog,[(32,0),(34,2),(36,3)],[Zzi,Zcj],[],[],[],[]⟩) ⟨kappa_k,qtext_k,trivial⟩ trivial trivial trivial (inl:=[]) trivial (ann:=.two .no (.two .no (.two (.cut ⟨⟨[],[],[]⟩,[(.norm,⟨[],[],[.s 0 (.dat .bool)]⟩)]⟩ .no) .no))) Tryz.func5 (fun _ _=>by kernel_rfl) rfl fun v vals x z ha hz=>(ZXp ).trans (hz)
end Go.Eng
set_option maxRecDepth 100000
set_option maxHeartbeats 4000000
namespace Go.Eng
open Go.Proofs Go.RowKit
noncomputable def Z4f:FuncId×Con:=(27,⟨[.pair (.int .i64) (.pair (.int .i64) (.pair (.int .i64) (.pair (.int .i64) (.leaf 3))))],[.pair (.int .i64) (.pair (.int .i64) (.pair (.int .i64) (.int .i64)))],fun p=>Zmg p⟩)
theorem Z3p (z:Int×Int×Int×Int×Rat):Zy ⟨Tryz.prog,[(32,0),(34,2),(36,3)],[],[],[],[],[]⟩ [] Tryz.f27 .no [.pair (.int .i64) (.pair (.int .i64) (.pair (.int .i64) (.pair (.int .i64) (.leaf 3))))] [.pair (.int .i64) (.pair (.int .i64) (.pair (.int .i64) (.int .i64)))] (z)=Zmg z:=by kernel_rfl
theorem Zhn:Zw Tryz.prog Z4f.1 Z4f.2:=ZD (C:=⟨Tryz.prog,[(32,0),(34,2),(36,3)],[],[],[],[],[]⟩) trivial trivial trivial trivial (inl:=[]) trivial (ann:=.no) Tryz.func27 (fun _ _=>by kernel_rfl) rfl fun v vals x z ha hz=>(Z3p x).trans hz
end Go.Eng
set_option maxRecDepth 100000
set_option maxHeartbeats 4000000
namespace Go.Eng
open Go.Proofs Go.RowKit
noncomputable def Zsf:FuncId×Con:=(29,⟨[.pair (.int .i64) (.pair (.int .i64) (.pair (.int .i64) (.int .i64)))],[.pair (.int .i64) (.pair (.int .i64) (.pair (.int .i64) (.int .i64)))],fun p=>ZAd p⟩)
theorem seach_i (z:Int×Int×Int×Int):Zy ⟨Tryz.prog,[(32,0),(34,2),(36,3)],[],[],[],[],[]⟩ [] Tryz.f29 .no [.pair (.int .i64) (.pair (.int .i64) (.pair (.int .i64) (.int .i64)))] [.pair (.int .i64) (.pair (.int .i64) (.pair (.int .i64) (.int .i64)))] (z)=ZAd z:=by kernel_rfl
theorem Zkn:Zw Tryz.prog Zsf.1 Zsf.2:=ZD (C:=⟨Tryz.prog,[(32,0),(34,2),(36,3)],[],[],[],[],[]⟩) trivial trivial trivial trivial (inl:=[]) trivial (ann:=.no) Tryz.func29 (fun _ _=>by kernel_rfl) rfl fun v vals x z ha hz=>(seach_i x).trans hz
end Go.Eng
set_option maxRecDepth 100000
set_option maxHeartbeats 4000000
namespace Go.Eng
open Go.Proofs Go.RowKit
noncomputable def ZNj:FuncId×Con:=(25,⟨[.pair (.int .i64) (.pair (.int .i64) (.pair (.int .i64) (.int .i64))),.slice (.pair (.int .i64) (.pair (.int .i64) (.pair (.int .i64) (.pair (.int .i64) (.leaf 3)))))],[.int .i64],fun p=>ZIg p.1 p.2⟩)
theorem ZEt (z:Int×Int×Int×Int) (l:List (Int×Int×Int×Int×Rat)):Zy ⟨Tryz.prog,[(32,0),(34,2),(36,3)],[Z4f,Zsf],[],[],[],[]⟩ [(52,Tryz.f52,.no),(53,Tryz.f53,.two .no (.two (.cut ⟨⟨[],[],[]⟩,[(.norm,⟨[],[],[.s 2 (.dat .bool)]⟩)]⟩ .no) .no)),(80,Tryz.f80,.cut ⟨⟨[],[],[]⟩,[(.ret,⟨[],[],[.s 0 (.dat (.int .i64))]⟩)]⟩ (.two .no (.two (.two .no (.two (.cut ⟨⟨[0,1,7],[],[.s 8 (.dat (.int .i64))]⟩,[(.exit 0,⟨[],[],[]⟩),(.ret,⟨[],[],[.s 0 (.dat (.int .i64))]⟩)]⟩ .no) .no)) .no)))] Tryz.f25 (.two .no (.two .no (.two .no (.two (.two (.cut ⟨⟨[],[],[]⟩,[(.norm,⟨[1,5],[],[.s 21 (.dat .bool)]⟩)]⟩ .no) .no) (.two (.two .no (.two (.cut ⟨⟨[5,22,23],[],[.s 24 (.dat (.int .i64))]⟩,[(.exit 0,⟨[],[],[]⟩),(.ret,⟨[],[],[.s 0 (.dat (.int .i64))]⟩)]⟩ (.two (.two .no (.two .no (.two (.two (.two .no (.two .no (.two (.unroll 5 (.two (.two .no (.two .no (.two (.two (.two .no (.two (.cut ⟨⟨[],[],[]⟩,[(.norm,⟨[5,22,23,24,29,30],[],[.s 42 (.dat .bool)]⟩)]⟩ .no) .no)) .no) .no))) .no)) .no))) .no) .no))) .no)) .no)) .no))))) [.pair (.int .i64) (.pair (.int .i64) (.pair (.int .i64) (.int .i64))),.slice (.pair (.int .i64) (.pair (.int .i64) (.pair (.int .i64) (.pair (.int .i64) (.leaf 3)))))] [.int .i64] (z,l)=ZIg z l:=by kernel_rfl
theorem ZCt:Zw Tryz.prog ZNj.1 ZNj.2:=ZD (C:=⟨Tryz.prog,[(32,0),(34,2),(36,3)],[Z4f,Zsf],[],[],[],[]⟩) ⟨Zhn,Zkn,trivial⟩ trivial trivial trivial (inl:=[(52,Tryz.f52,.no),(53,Tryz.f53,.two .no (.two (.cut ⟨⟨[],[],[]⟩,[(.norm,⟨[],[],[.s 2 (.dat .bool)]⟩)]⟩ .no) .no)),(80,Tryz.f80,.cut ⟨⟨[],[],[]⟩,[(.ret,⟨[],[],[.s 0 (.dat (.int .i64))]⟩)]⟩ (.two .no (.two (.two .no (.two (.cut ⟨⟨[0,1,7],[],[.s 8 (.dat (.int .i64))]⟩,[(.exit 0,⟨[],[],[]⟩),(.ret,⟨[],[],[.s 0 (.dat (.int .i64))]⟩)]⟩ .no) .no)) .no)))]) ⟨⟨Tryz.func52,fun _ _=>by kernel_rfl⟩,⟨Tryz.func53,fun _ _=>by kernel_rfl⟩,⟨Tryz.func80,fun _ _=>by kernel_rfl⟩,trivial⟩ (ann:=(.two .no (.two .no (.two .no (.two (.two (.cut ⟨⟨[],[],[]⟩,[(.norm,⟨[1,5],[],[.s 21 (.dat .bool)]⟩)]⟩ .no) .no) (.two (.two .no (.two (.cut ⟨⟨[5,22,23],[],[.s 24 (.dat (.int .i64))]⟩,[(.exit 0,⟨[],[],[]⟩),(.ret,⟨[],[],[.s 0 (.dat (.int .i64))]⟩)]⟩ (.two (.two .no (.two .no (.two (.two (.two .no (.two .no (.two (.unroll 5 (.two (.two .no (.two .no (.two (.two (.two .no (.two (.cut ⟨⟨[],[],[]⟩,[(.norm,⟨[5,22,23,24,29,30],[],[.s 42 (.dat .bool)]⟩)]⟩ .no) .no)) .no) .no))) .no)) .no))) .no) .no))) .no)) .no)) .no)))))) Tryz.func25 (fun _ _=>by kernel_rfl) rfl fun v vals x z ha hz=>(ZEt x.1 x.2).trans hz
end Go.Eng
set_option maxRecDepth 100000
set_option maxHeartbeats 4000000
namespace Go.Eng
open Go.Proofs Go.RowKit
noncomputable def Z6f:FuncId×Con:=(26,⟨[.pair (.int .i64) (.pair (.int .i64) (.pair (.int .i64) (.int .i64)))],[.int .i64],fun p=>ZNd p⟩)
theorem Zrt (z:Int×Int×Int×Int):Zy ⟨Tryz.prog,[(32,0),(34,2),(36,3)],[],[],[],[],[]⟩ [] Tryz.f26 .no [.pair (.int .i64) (.pair (.int .i64) (.pair (.int .i64) (.int .i64)))] [.int .i64] (z)=ZNd z:=by kernel_rfl
theorem Zso:Zw Tryz.prog Z6f.1 Z6f.2:=ZD (C:=⟨Tryz.prog,[(32,0),(34,2),(36,3)],[],[],[],[],[]⟩) trivial trivial trivial trivial (inl:=[]) trivial (ann:=.no) Tryz.func26 (fun _ _=>by kernel_rfl) rfl fun v vals x z ha hz=>(Zrt x).trans hz
end Go.Eng
set_option maxRecDepth 100000
set_option maxHeartbeats 4000000
namespace Go.Eng
open Go.Proofs Go.RowKit
noncomputable def Zzf:FuncId×Con:=(10,⟨[.pair (.int .i64) (.pair (.int .i64) (.pair (.int .i64) (.int .i64))),.slice (.pair (.int .i64) (.pair (.int .i64) (.pair (.int .i64) (.pair (.int .i64) (.leaf 3)))))],[.slice (.slice (.leaf 3)),.int .i64],fun p=>ZBd p.1 p.2⟩)
theorem Z8q (z:Int×Int×Int×Int) (l:List (Int×Int×Int×Int×Rat)):Zy ⟨Tryz.prog,[(32,0),(34,2),(36,3)],[ZNj,Z6f,Z4f,Z2c,Zsf],[],[],[],[]⟩ [] Tryz.f10 (.two .no (.two .no (.two .no (.two (.two .no (.two (.cut ⟨⟨[2,20,21],[],[.s 7 (.own 41 (.slice (.leaf 3))),.s 22 (.dat (.int .i64))]⟩,[(.exit 0,⟨[],[],[.s 7 (.own 41 (.slice (.leaf 3)))]⟩)]⟩ (.two (.two .no (.two .no (.two (.two (.two .no (.two .no (.two .no (.two (.two .no (.two (.unroll 5 .no) .no)) .no)))) .no) .no))) .no)) .no)) .no)))) [.pair (.int .i64) (.pair (.int .i64) (.pair (.int .i64) (.int .i64))),.slice (.pair (.int .i64) (.pair (.int .i64) (.pair (.int .i64) (.pair (.int .i64) (.leaf 3)))))] [.slice (.slice (.leaf 3)),.int .i64] (z,l)=ZBd z l:=by kernel_rfl
theorem Zcm:Zw Tryz.prog Zzf.1 Zzf.2:=ZD (C:=⟨Tryz.prog,[(32,0),(34,2),(36,3)],[ZNj,Z6f,Z4f,Z2c,Zsf],[],[],[],[]⟩) ⟨ZCt,Zso,Zhn,ZKi,Zkn,trivial⟩ trivial trivial trivial (inl:=[]) trivial (ann:=(.two .no (.two .no (.two .no (.two (.two .no (.two (.cut ⟨⟨[2,20,21],[],[.s 7 (.own 41 (.slice (.leaf 3))),.s 22 (.dat (.int .i64))]⟩,[(.exit 0,⟨[],[],[.s 7 (.own 41 (.slice (.leaf 3)))]⟩)]⟩ (.two (.two .no (.two .no (.two (.two (.two .no (.two .no (.two .no (.two (.two .no (.two (.unroll 5 .no) .no)) .no)))) .no) .no))) .no)) .no)) .no))))) Tryz.func10 (fun _ _=>by kernel_rfl) rfl fun v vals x z ha hz=>(Z8q x.1 x.2).trans hz
end Go.Eng
set_option maxRecDepth 100000
set_option maxHeartbeats 4000000
namespace Go.Eng
open Go.Proofs Go.RowKit
noncomputable def ZHf:FuncId×Con:=(22,⟨[.pair (.int .i64) (.pair (.int .i64) (.pair (.int .i64) (.int .i64))),.slice (.pair (.int .i64) (.pair (.int .i64) (.pair (.int .i64) (.pair (.int .i64) (.leaf 3))))),.int .i64,.int .i64],[.slice (.slice (.leaf 3)),.slice (.leaf 3),.int .i64],fun p=>ZAf p.1 p.2.1 p.2.2.1 p.2.2.2⟩)
theorem asked_i (z:Int×Int×Int×Int) (l:List (Int×Int×Int×Int×Rat)) (a:Int) (b:Int):Zy ⟨Tryz.prog,[(32,0),(34,2),(36,3)],[Z9b,Zzf,Z6f,Z2c,ZWc],[],[],[],[]⟩ [] Tryz.f22 (.two .no (.two .no (.two (.two (.cut ⟨⟨[],[],[]⟩,[(.norm,⟨[2,3,4,8,10],[],[.s 38 (.dat .bool)]⟩)]⟩ .no) (.cut ⟨⟨[],[],[]⟩,[(.norm,⟨[2,3,4,8],[],[.s 10 (.dat (.int .i64))]⟩)]⟩ .no)) .no))) [.pair (.int .i64) (.pair (.int .i64) (.pair (.int .i64) (.int .i64))),.slice (.pair (.int .i64) (.pair (.int .i64) (.pair (.int .i64) (.pair (.int .i64) (.leaf 3))))),.int .i64,.int .i64] [.slice (.slice (.leaf 3)),.slice (.leaf 3),.int .i64] (z,l,a,b)=ZAf z l a b:=by kernel_rfl
theorem Z9l:Zw Tryz.prog ZHf.1 ZHf.2:=ZD (C:=⟨Tryz.prog,[(32,0),(34,2),(36,3)],[Z9b,Zzf,Z6f,Z2c,ZWc],[],[],[],[]⟩) ⟨Zuh,Zcm,Zso,ZKi,ZLj,trivial⟩ trivial trivial trivial (inl:=[]) trivial (ann:=(.two .no (.two .no (.two (.two (.cut ⟨⟨[],[],[]⟩,[(.norm,⟨[2,3,4,8,10],[],[.s 38 (.dat .bool)]⟩)]⟩ .no) (.cut ⟨⟨[],[],[]⟩,[(.norm,⟨[2,3,4,8],[],[.s 10 (.dat (.int .i64))]⟩)]⟩ .no)) .no)))) Tryz.func22 (fun _ _=>by kernel_rfl) rfl fun v vals x z ha hz=>(asked_i x.1 x.2.1 x.2.2.1 x.2.2.2).trans hz
end Go.Eng
set_option maxRecDepth 100000
set_option maxHeartbeats 4000000
namespace Go.Eng
open Go.Proofs Go.RowKit
noncomputable def ZZa:FuncId×Con:=(32,⟨[.slice (.slice (.leaf 3))],[.int .i64],fun p=>Ztb p⟩)
theorem ZKr (m:List (List Rat)):Zy ⟨Tryz.prog,[(32,0),(34,2),(36,3)],[],[],[],[],[]⟩ [] Tryz.f32 .no [.slice (.slice (.leaf 3))] [.int .i64] (m)=Ztb m:=by kernel_rfl
theorem Z2d:Zw Tryz.prog ZZa.1 ZZa.2:=ZD (C:=⟨Tryz.prog,[(32,0),(34,2),(36,3)],[],[],[],[],[]⟩) trivial trivial trivial trivial (inl:=[]) trivial (ann:=.no) Tryz.func32 (fun _ _=>by kernel_rfl) rfl fun v vals x z ha hz=>(ZKr x).trans hz
end Go.Eng
set_option maxRecDepth 100000
set_option maxHeartbeats 4000000
namespace Go.Eng
open Go.Proofs Go.RowKit
noncomputable def Z8b:FuncId×Con:=(31,⟨[.slice (.slice (.leaf 3))],[.bool],fun p=>ZMc p⟩)
theorem Zgt (m:List (List Rat)):Zy ⟨Tryz.prog,[(32,0),(34,2),(36,3)],[ZZa],[],[],[],[]⟩ [(54,Tryz.f54,.no),(55,Tryz.f55,.no),(81,Tryz.f81,.cut ⟨⟨[],[],[]⟩,[(.ret,⟨[],[],[.s 0 (.dat (.int .i64))]⟩)]⟩ (.two .no (.two (.two .no (.two (.cut ⟨⟨[0,1,7],[],[.s 8 (.dat (.int .i64))]⟩,[(.exit 0,⟨[],[],[]⟩),(.ret,⟨[],[],[.s 0 (.dat (.int .i64))]⟩)]⟩ .no) .no)) .no)))] Tryz.f31 (.two .no (.two .no (.two (.cut ⟨⟨[],[],[]⟩,[(.norm,⟨[],[],[.s 2 (.dat .bool)]⟩)]⟩ .no) .no))) [.slice (.slice (.leaf 3))] [.bool] (m)=ZMc m:=by kernel_rfl
theorem Zwg:Zw Tryz.prog Z8b.1 Z8b.2:=ZD (C:=⟨Tryz.prog,[(32,0),(34,2),(36,3)],[ZZa],[],[],[],[]⟩) ⟨Z2d,trivial⟩ trivial trivial trivial (inl:=[(54,Tryz.f54,.no),(55,Tryz.f55,.no),(81,Tryz.f81,.cut ⟨⟨[],[],[]⟩,[(.ret,⟨[],[],[.s 0 (.dat (.int .i64))]⟩)]⟩ (.two .no (.two (.two .no (.two (.cut ⟨⟨[0,1,7],[],[.s 8 (.dat (.int .i64))]⟩,[(.exit 0,⟨[],[],[]⟩),(.ret,⟨[],[],[.s 0 (.dat (.int .i64))]⟩)]⟩ .no) .no)) .no)))]) ⟨⟨Tryz.func54,fun _ _=>by kernel_rfl⟩,⟨Tryz.func55,fun _ _=>by kernel_rfl⟩,⟨Tryz.func81,fun _ _=>by kernel_rfl⟩,trivial⟩ (ann:=(.two .no (.two .no (.two (.cut ⟨⟨[],[],[]⟩,[(.norm,⟨[],[],[.s 2 (.dat .bool)]⟩)]⟩ .no) .no)))) Tryz.func31 (fun _ _=>by kernel_rfl) rfl fun v vals x z ha hz=>(Zgt x).trans hz
end Go.Eng
set_option maxRecDepth 100000
set_option maxHeartbeats 4000000
namespace Go.Eng
open Go.Proofs Go.RowKit
noncomputable def Zqi:FuncId×Con:=(125,⟨[.leaf 3,.leaf 3],[.leaf 3],fun p=>Z1h p.1 p.2⟩)
theorem qOf_i (x:Rat) (y:Rat):Zy ⟨Tryz.prog,[(32,0),(34,2),(36,3)],[],[],[],[],[]⟩ [] Tryz.f125 .no [.leaf 3,.leaf 3] [.leaf 3] (x,y)=Z1h x y:=by kernel_rfl
theorem qOf_k:Zw Tryz.prog Zqi.1 Zqi.2:=ZD (C:=⟨Tryz.prog,[(32,0),(34,2),(36,3)],[],[],[],[],[]⟩) trivial trivial trivial trivial (inl:=[]) trivial (ann:=.no) Tryz.func125 (fun _ _=>by kernel_rfl) rfl fun v vals x z ha hz=>(qOf_i x.1 x.2).trans hz
end Go.Eng
set_option maxRecDepth 100000
namespace Go.Eng
open Go.Proofs Go.RowKit
theorem ZTq : ∀ y w, (method (Tryz.prog.types.size + Made.depth) 36 y "Add").run Tryz.prog w = .ok (6, y) w := fun _ _ => by kernel_rfl
theorem Z7q : ∀ y w, (method (Tryz.prog.types.size + Made.depth) 36 y "Conj").run Tryz.prog w = .ok (123, y) w := fun _ _ => by kernel_rfl
theorem Z5s : ∀ y w, (method (Tryz.prog.types.size + Made.depth) 36 y "Div").run Tryz.prog w = .ok (58, y) w := fun _ _ => by kernel_rfl
theorem ZMo : ∀ y w, (method (Tryz.prog.types.size + Made.depth) 36 y "Mul").run Tryz.prog w = .ok (84, y) w := fun _ _ => by kernel_rfl
theorem ZJo : ∀ y w, (method (Tryz.prog.types.size + Made.depth) 36 y "Neg").run Tryz.prog w = .ok (70, y) w := fun _ _ => by kernel_rfl
theorem ZMp : ∀ y w, (method (Tryz.prog.types.size + Made.depth) 36 y "Of").run Tryz.prog w = .ok (125, y) w := fun _ _ => by kernel_rfl
theorem ZZo : ∀ y w, (method (Tryz.prog.types.size + Made.depth) 36 y "Sub").run Tryz.prog w = .ok (47, y) w := fun _ _ => by kernel_rfl
theorem Z8n : ∀ y w, (method (Tryz.prog.types.size + Made.depth) 36 y "Zero").run Tryz.prog w = .ok (13, y) w := fun _ _ => by kernel_rfl
end Go.Eng
set_option maxRecDepth 100000
set_option maxHeartbeats 4000000
namespace Go.Eng
open Go.Proofs Go.RowKit
noncomputable def ZYc:FuncId×Con:=(74,⟨[.int .i64],[.leaf 3],fun p=>Z9c p⟩)
theorem Zyp (n : Int) : Zy ⟨Tryz.prog, [(32, 0), (34, 2), (36, 3)], [Zse, Zqi], [], [], [], [((36, "Of"), 125)]⟩ [] Tryz.f74 .no [.int .i64] [.leaf 3] (n) = Z9c n := by kernel_rfl
theorem ZMi : Zw Tryz.prog ZYc.1 ZYc.2 := ZD (C := ⟨Tryz.prog, [(32, 0), (34, 2), (36, 3)], [Zse, Zqi], [], [], [], [((36, "Of"), 125)]⟩) ⟨ZRk, qOf_k, trivial⟩ trivial trivial ⟨ZMp, trivial⟩ (inl := []) trivial (ann := .no) Tryz.func74 (fun _ _ => by kernel_rfl) rfl fun v vals x z ha hz => (Zyp x).trans hz
end Go.Eng
namespace Go.Eng
open Go.Proofs Go.RowKit
set_option maxRecDepth 100000
theorem Zdp:Elem Tryz.prog 41 36 (Z1a).n 56 (Value.agg #[Value.bool false,Value.slice none 0 0,Value.slice none 0 0]):=⟨Tryz.underlying41,by kernel_rfl,rfl,by decide⟩
noncomputable def Z2f:FuncId×ConO:=(105,⟨[.slice (.leaf 3)],36,.leaf 3,fun p=>Zqe 56 p⟩)
theorem Zwm:ZCh Tryz.prog Z2f.1 Z2f.2:=fun w v vals x z hv ha hz=>by
 obtain ⟨cs,rfl,p0⟩:=ha
 have hz:Zqe 56 (show List Rat from x)=some z:=hz
 obtain ⟨hb,rfl⟩:=ZVp hz
 obtain ⟨q,n,c,rfl⟩:=Z2e (show (Zz Z1a).rel v cs z from p0)
 refine ⟨fun _ _=>by kernel_rfl,?_⟩
 have hn:n=(show List Rat from z).length:=by obtain ⟨_,_,e,_⟩:=p0;cases e;rfl
 refine Zpn (K:=8) (args:=[.slice q n c]) hv Tryz.func105 rfl rfl zl fun fa hS=>?_
 refine sr ?_
 refine mw hS rfl fun fa hS=>?_
 refine oe ?_
 refine wp_seq_k fun N1 hN1=>?_
 refine sr ?_
 refine mv hS rfl fun fa hS=>?_
 refine ov hS rfl (Zbt hS Tryz.underlying41 rfl rfl) fun fa hS=>?_
 refine oe ?_
 cases q with
 | none =>
  refine ZQ hS rfl rfl ?_
  have hx:(show List Rat from z)=[]:=by
   obtain ⟨q',c',e,_,_,h3⟩:=p0
   cases e
   rcases h3 with h3 | ⟨_,_,_,_,_,h4,_⟩
   ·exact h3
   ·cases h4
  have hx0:n=0:=by rw [hn,hx];rfl
  refine sr ?_;refine mw hS rfl fun fa hS=>?_;refine oe ?_;refine wp_ret ?_;refine ZNa ?_;have hS2:=hS.nilLoc 36 (Z1a).n;have:=Z1k (P:=Tryz.prog) (A:=Z1a) hS2 (i:=0) (ob:=none) (n:=0) (cap:=0) (cs:=[]) rfl (ZFa (fn:=Tryz.f105) (r:=.tmp 2) rfl (ZR (t:=2) (y:=.slice (mkA none) 0 0) hS2 rfl)) (l:=([]:List Rat)) ZPd rfl;rw [hx];exact this
 | some ad =>
  refine ZM hS rfl rfl ?_;refine wp_skip ?_;refine Zf (hN1 _ _ ?_);refine sr ?_;obtain ⟨b,wo,hrun,hS⟩:=ZAs Zdp hS;refine Zhb wn rfl zl hrun hS fun fa hS=>?_;refine mv hS rfl fun fa hS=>?_;obtain ⟨b',cap',cs2,wo,hr,hS',hrel⟩:=ZQe (ty:=41) (A:=Z1a) Zdp hS (i:=0) rfl (Rep.mono (Zz Z1a) hS.vst.le p0) (n':=n) (by omega) (by rw [hn];exact hb) (by decide);refine Zhb wn rfl zl (ZOd hS rfl rfl hr) hS' fun fa hS=>?_;refine mw hS rfl fun fa hS=>?_;refine oe ?_;refine wp_ret ?_;exact Z1k hS (i:=0) rfl (ZFa rfl (ZR hS rfl)) hrel hn
end Go.Eng
set_option maxRecDepth 100000
set_option maxHeartbeats 4000000
namespace Go.Eng
open Go.Proofs Go.RowKit
noncomputable def ZZf:FuncId×Con:=(71,⟨[.slice (.slice (.leaf 3))],[.slice (.slice (.leaf 3)),.slice (.int .i64),.leaf 3],fun p=>ZLf p⟩)
theorem Zbq (m : List (List Rat)) : Zy ⟨Tryz.prog, [(32, 0), (34, 2), (36, 3)], [ZXc, ZWc, ZEe, ZIe, ZYc, Zxe], [8], [Z2f], [], [((36, "Div"), 58), ((36, "Mul"), 84), ((36, "Neg"), 70), ((36, "Sub"), 47), ((36, "Zero"), 13)]⟩ [(32, Tryz.f32, .cut ⟨⟨[], [], []⟩, [(.ret, ⟨[], [], [.s 0 (.dat (.int .i64))]⟩)]⟩ .no), (95, Tryz.f95, .two .no (.two .no (.two (.two .no (.two (.cut ⟨⟨[3, 9, 10], [], [.s 11 (.dat (.int .i64)), .l (.sl 3) (.mat 41 36 (.leaf 3))]⟩, [(.exit 0, ⟨[3], [], [.l (.sl 3) (.mat 41 36 (.leaf 3))]⟩)]⟩ .no) .no)) .no)))] Tryz.f71 (.two .no (.two .no (.two .no (.two .no (.two (.two .no (.two (.cut ⟨⟨[0, 4, 6, 19], [], [.s 5 (.own 3 (.int .i64)), .s 20 (.dat (.int .i64)), .l (.sl 0) (.mat 41 36 (.leaf 3)), .l (.sl 6) (.box 36 (.dat (.leaf 3)))]⟩, [(.exit 0, ⟨[0, 4, 6], [], [.s 5 (.own 3 (.int .i64)), .l (.sl 0) (.mat 41 36 (.leaf 3)), .l (.sl 6) (.box 36 (.dat (.leaf 3)))]⟩)]⟩ (.two (.two .no (.two .no (.two (.cut ⟨⟨[], [], []⟩, [(.norm, ⟨[0, 4, 6, 19, 20], [], [.s 5 (.own 3 (.int .i64)), .l (.sl 0) (.mat 41 36 (.leaf 3)), .l (.sl 6) (.box 36 (.dat (.leaf 3)))]⟩)]⟩ (.two (.two .no (.two .no (.two .no (.two (.two (.cut ⟨⟨[0, 4, 5, 6, 7, 8, 19, 20], [], [.s 9 (.dat (.int .i64))]⟩, [(.exit 2, ⟨[0, 4, 5, 6, 7, 8, 19, 20], [], [.s 9 (.dat (.int .i64))]⟩)]⟩ (.two (.two (.two (.cut ⟨⟨[], [], []⟩, [(.norm, ⟨[0, 4, 5, 6, 7, 8, 9, 19, 20], [], [.s 40 (.dat .bool)]⟩)]⟩ .no) .no) .no) .no)) .no) (.two .no (.two (.two .no (.cut ⟨⟨[], [], []⟩, [(.norm, ⟨[0, 4, 5, 6, 7, 8, 19, 20], [], [.l (.sl 0) (.mat 41 36 (.leaf 3)), .l (.sl 6) (.box 36 (.dat (.leaf 3)))]⟩)]⟩ .no)) (.two .no (.two .no (.two (.two .no (.two (.cut ⟨⟨[0, 4, 5, 6, 7, 8, 10, 19, 20, 83], [], [.s 84 (.dat (.int .i64)), .l (.sl 0) (.mat 41 36 (.leaf 3))]⟩, [(.exit 4, ⟨[0, 4, 5, 6, 7, 8, 19, 20], [], [.l (.sl 0) (.mat 41 36 (.leaf 3))]⟩)]⟩ .no) .no)) (.two (.two .no (.two (.cut ⟨⟨[0, 4, 5, 6, 7, 8, 19, 20, 108], [], [.s 109 (.dat (.int .i64)), .l (.sl 0) (.mat 41 36 (.leaf 3))]⟩, [(.exit 6, ⟨[0, 4, 5, 6, 7, 19, 20], [], [.l (.sl 0) (.mat 41 36 (.leaf 3))]⟩)]⟩ (.two (.two .no (.two .no (.two (.cut ⟨⟨[], [], []⟩, [(.norm, ⟨[0, 4, 5, 6, 7, 8, 19, 20, 108, 109], [], [.l (.sl 0) (.mat 41 36 (.leaf 3))]⟩)]⟩ (.two (.two .no (.two .no (.two (.two (.cut ⟨⟨[], [], []⟩, [(.norm, ⟨[0, 4, 5, 6, 7, 8, 12, 13, 19, 20, 108, 109], [], [.s 126 (.dat .bool)]⟩)]⟩ .no) .no) (.two .no (.two (.cut ⟨⟨[0, 4, 5, 6, 7, 8, 12, 13, 19, 20, 108, 109, 131], [], [.s 132 (.dat (.int .i64)), .l (.sl 0) (.mat 41 36 (.leaf 3))]⟩, [(.exit 8, ⟨[0, 4, 5, 6, 7, 8, 19, 20, 108, 109], [], [.l (.sl 0) (.mat 41 36 (.leaf 3))]⟩)]⟩ .no) .no))))) .no)) .no))) .no)) .no)) .no)))))))))) .no)) .no))) .no)) .no)) .no))))) [.slice (.slice (.leaf 3))] [.slice (.slice (.leaf 3)), .slice (.int .i64), .leaf 3] (m) = ZLf m := by kernel_rfl
theorem Zto : Zw Tryz.prog ZZf.1 ZZf.2 := ZD (C := ⟨Tryz.prog, [(32, 0), (34, 2), (36, 3)], [ZXc, ZWc, ZEe, ZIe, ZYc, Zxe], [8], [Z2f], [], [((36, "Div"), 58), ((36, "Mul"), 84), ((36, "Neg"), 70), ((36, "Sub"), 47), ((36, "Zero"), 13)]⟩) ⟨Zmi, ZLj, Z7k, Z6k, ZMi, ZMk, trivial⟩ ⟨Zwm, trivial⟩ trivial ⟨Z5s, ZMo, ZJo, ZZo, Z8n, trivial⟩ (inl := [(32, Tryz.f32, .cut ⟨⟨[], [], []⟩, [(.ret, ⟨[], [], [.s 0 (.dat (.int .i64))]⟩)]⟩ .no), (95, Tryz.f95, .two .no (.two .no (.two (.two .no (.two (.cut ⟨⟨[3, 9, 10], [], [.s 11 (.dat (.int .i64)), .l (.sl 3) (.mat 41 36 (.leaf 3))]⟩, [(.exit 0, ⟨[3], [], [.l (.sl 3) (.mat 41 36 (.leaf 3))]⟩)]⟩ .no) .no)) .no)))]) ⟨⟨Tryz.func32, fun _ _ => by kernel_rfl⟩, ⟨Tryz.func95, fun _ _ => by kernel_rfl⟩, trivial⟩ (ann := (.two .no (.two .no (.two .no (.two .no (.two (.two .no (.two (.cut ⟨⟨[0, 4, 6, 19], [], [.s 5 (.own 3 (.int .i64)), .s 20 (.dat (.int .i64)), .l (.sl 0) (.mat 41 36 (.leaf 3)), .l (.sl 6) (.box 36 (.dat (.leaf 3)))]⟩, [(.exit 0, ⟨[0, 4, 6], [], [.s 5 (.own 3 (.int .i64)), .l (.sl 0) (.mat 41 36 (.leaf 3)), .l (.sl 6) (.box 36 (.dat (.leaf 3)))]⟩)]⟩ (.two (.two .no (.two .no (.two (.cut ⟨⟨[], [], []⟩, [(.norm, ⟨[0, 4, 6, 19, 20], [], [.s 5 (.own 3 (.int .i64)), .l (.sl 0) (.mat 41 36 (.leaf 3)), .l (.sl 6) (.box 36 (.dat (.leaf 3)))]⟩)]⟩ (.two (.two .no (.two .no (.two .no (.two (.two (.cut ⟨⟨[0, 4, 5, 6, 7, 8, 19, 20], [], [.s 9 (.dat (.int .i64))]⟩, [(.exit 2, ⟨[0, 4, 5, 6, 7, 8, 19, 20], [], [.s 9 (.dat (.int .i64))]⟩)]⟩ (.two (.two (.two (.cut ⟨⟨[], [], []⟩, [(.norm, ⟨[0, 4, 5, 6, 7, 8, 9, 19, 20], [], [.s 40 (.dat .bool)]⟩)]⟩ .no) .no) .no) .no)) .no) (.two .no (.two (.two .no (.cut ⟨⟨[], [], []⟩, [(.norm, ⟨[0, 4, 5, 6, 7, 8, 19, 20], [], [.l (.sl 0) (.mat 41 36 (.leaf 3)), .l (.sl 6) (.box 36 (.dat (.leaf 3)))]⟩)]⟩ .no)) (.two .no (.two .no (.two (.two .no (.two (.cut ⟨⟨[0, 4, 5, 6, 7, 8, 10, 19, 20, 83], [], [.s 84 (.dat (.int .i64)), .l (.sl 0) (.mat 41 36 (.leaf 3))]⟩, [(.exit 4, ⟨[0, 4, 5, 6, 7, 8, 19, 20], [], [.l (.sl 0) (.mat 41 36 (.leaf 3))]⟩)]⟩ .no) .no)) (.two (.two .no (.two (.cut ⟨⟨[0, 4, 5, 6, 7, 8, 19, 20, 108], [], [.s 109 (.dat (.int .i64)), .l (.sl 0) (.mat 41 36 (.leaf 3))]⟩, [(.exit 6, ⟨[0, 4, 5, 6, 7, 19, 20], [], [.l (.sl 0) (.mat 41 36 (.leaf 3))]⟩)]⟩ (.two (.two .no (.two .no (.two (.cut ⟨⟨[], [], []⟩, [(.norm, ⟨[0, 4, 5, 6, 7, 8, 19, 20, 108, 109], [], [.l (.sl 0) (.mat 41 36 (.leaf 3))]⟩)]⟩ (.two (.two .no (.two .no (.two (.two (.cut ⟨⟨[], [], []⟩, [(.norm, ⟨[0, 4, 5, 6, 7, 8, 12, 13, 19, 20, 108, 109], [], [.s 126 (.dat .bool)]⟩)]⟩ .no) .no) (.two .no (.two (.cut ⟨⟨[0, 4, 5, 6, 7, 8, 12, 13, 19, 20, 108, 109, 131], [], [.s 132 (.dat (.int .i64)), .l (.sl 0) (.mat 41 36 (.leaf 3))]⟩, [(.exit 8, ⟨[0, 4, 5, 6, 7, 8, 19, 20, 108, 109], [], [.l (.sl 0) (.mat 41 36 (.leaf 3))]⟩)]⟩ .no) .no))))) .no)) .no))) .no)) .no)) .no)))))))))) .no)) .no))) .no)) .no)) .no)))))) Tryz.func71 (fun _ _ => by kernel_rfl) rfl fun v vals x z ha hz => (Zbq x).trans hz
end Go.Eng
set_option maxRecDepth 100000
set_option maxHeartbeats 4000000
namespace Go.Eng
open Go.Proofs Go.RowKit
noncomputable def ZEj:FuncId×Con:=(96,⟨[.slice (.int .i64),.int .i64],[.int .i64],fun p=>Z6g p.1 p.2⟩)
theorem ZKq (l:(List Int)) (v:Int):Zy ⟨Tryz.prog,[(32,0),(34,2),(36,3)],[],[],[],[],[]⟩ [] Tryz.f96 (.two .no (.two (.two .no (.cut ⟨⟨[],[],[]⟩,[(.norm,⟨[],[],[]⟩),(.ret,⟨[],[],[.s 0 (.dat (.int .i64))]⟩)]⟩ (.two (.cut ⟨⟨[0,1,7],[],[.s 8 (.dat (.int .i64))]⟩,[(.ret,⟨[],[],[.s 0 (.dat (.int .i64))]⟩),(.exit 0,⟨[],[],[]⟩)]⟩ .no) .no))) .no)) [.slice (.int .i64),.int .i64] [.int .i64] (l,v)=Z6g l v:=by kernel_rfl
theorem Zsq:Zw Tryz.prog ZEj.1 ZEj.2:=ZD (C:=⟨Tryz.prog,[(32,0),(34,2),(36,3)],[],[],[],[],[]⟩) trivial trivial trivial trivial (inl:=[]) trivial (ann:=.two .no (.two (.two .no (.cut ⟨⟨[],[],[]⟩,[(.norm,⟨[],[],[]⟩),(.ret,⟨[],[],[.s 0 (.dat (.int .i64))]⟩)]⟩ (.two (.cut ⟨⟨[0,1,7],[],[.s 8 (.dat (.int .i64))]⟩,[(.ret,⟨[],[],[.s 0 (.dat (.int .i64))]⟩),(.exit 0,⟨[],[],[]⟩)]⟩ .no) .no))) .no)) Tryz.func96 (fun _ _=>by kernel_rfl) rfl fun v vals x z ha hz=>(ZKq x.1 x.2).trans (hz)
end Go.Eng
set_option maxRecDepth 100000
set_option maxHeartbeats 4000000
namespace Go.Eng
open Go.Proofs Go.RowKit
noncomputable def ZMh:FuncId×Con:=(72,⟨[.slice (.int .i64),.int .i64],[.bool],fun p=>Zah p.1 p.2⟩)
theorem Zwr (l:(List Int)) (v:Int):Zy ⟨Tryz.prog,[(32,0),(34,2),(36,3)],[ZEj],[],[],[],[]⟩ [] Tryz.f72 .no [.slice (.int .i64),.int .i64] [.bool] (l,v)=Zah l v:=by kernel_rfl
theorem Zht:Zw Tryz.prog ZMh.1 ZMh.2:=ZD (C:=⟨Tryz.prog,[(32,0),(34,2),(36,3)],[ZEj],[],[],[],[]⟩) ⟨Zsq,trivial⟩ trivial trivial trivial (inl:=[]) trivial (ann:=.no) Tryz.func72 (fun _ _=>by kernel_rfl) rfl fun v vals x z ha hz=>(Zwr x.1 x.2).trans (hz)
noncomputable def Ztj (x:Int) (y:Int):Option (Int×Int) :=
 bnd (Z5b x y) fun a =>
 some ((a.1,a.2))
end Go.Eng
namespace Go.Eng
open Go.Proofs Go.RowKit
theorem bmul_w {c:World} {a:Zb} (hv:VIn a c) {d:List Value} {x:Int} (i:Rep.rel (Zc .u64) a d x) {e:List Value} {y:Int} (j:Rep.rel (Zc .u64) a e y) {z:Int×Int} (H:Ztj x y=some z):Ret Tryz.prog 87 #[(Zc .u64).val d,(Zc .u64).val e] c a (fun y v'=>∃ g b,y = .tuple #[(Zc .u64).val g,(Zc .u64).val b]∧(Zc .u64).rel v' g z.1∧(Zc .u64).rel v' b z.2):=by
 obtain ⟨rfl,b⟩:=i;obtain ⟨rfl,k⟩:=j;refine Zrb (K:=30) (args:=[.int .u64 x,.int .u64 y]) hv Tryz.func87 rfl rfl zl fun f S=>?_;unfold Ztj at H;refine sr (mw S rfl fun f S=>mw S rfl fun f S=>oe (Zi fun _ l=>ZM S rfl rfl (wp_skip (Zf (l _ _ (Zi fun _ m=>bO H fun h n H=>Zp (mv S rfl fun f S=>mv S rfl fun f S=>opc S rfl (Z7 S [.int .u64 x,.int .u64 y] Zik rfl rfl) (ZIk S.vin (show Rep.rel (Zc .u64) _ [.int .u64 x] x from (ZC b)) (show Rep.rel (Zc .u64) _ [.int .u64 y] y from (ZC k)) n) ?_)))))));rintro _ s f w t ⟨u,v,rfl,o,p⟩ S;obtain ⟨rfl,q⟩:=o;obtain ⟨rfl,r⟩:=p;refine mv S rfl fun f S=>ov S rfl (Zpa S rfl rfl) fun f S=>ov S rfl (Zpa S rfl rfl) fun f S=>mw S rfl fun f S=>mw S rfl fun f S=>Zn (Zf (m _ _ (sr (mv S rfl fun f S=>mv S rfl fun f S=>mw S rfl fun f S=>mw S rfl fun f S=>oe (wp_ret ?_)))));obtain rfl:=Zl H;refine Zxa S (Zoe rfl (ZR S rfl) (ZR S rfl)) ⟨[.int .u64 (h.1)],[.int .u64 (h.2)],rfl,(ZC q),(ZC r)⟩
set_option maxRecDepth 100000
theorem ZJl:Elem Tryz.prog 41 36 (Z1a).n 56 (Value.agg #[Value.bool false,Value.slice none 0 0,Value.slice none 0 0]):=⟨Tryz.underlying41,by kernel_rfl,rfl,by decide⟩
theorem Zbi:ZBc Tryz.prog 41 36 (Z1a).n:=⟨fun _=>by kernel_rfl,fun _=>by kernel_rfl⟩
theorem ZVq:Tryz.prog.follows .mixedOrders=true:=by kernel_rfl
theorem Z2r:Zca Tryz.prog 87:=fun _ _=>by kernel_rfl
theorem Z1m:ZNg Tryz.prog 3 119 .i64 .u64:=fun _ _=>by kernel_rfl
theorem ZRr:ZNg Tryz.prog 119 3 .u64 .i64:=fun _ _=>by kernel_rfl
noncomputable def Z1f:FuncId×ConO:=(97,⟨[.slice (.leaf 3),.int .i64],36,.leaf 3,fun p=>Zte 56 p.1 p.2⟩)
theorem Zem:ZCh Tryz.prog Z1f.1 Z1f.2:=fun w v vals x z hv ha hz=>by
 obtain ⟨cs,vs,rfl,p0,c1,rfl,rfl,hin⟩:=ha
 obtain ⟨x1,k0⟩:=x
 have hz:Zte 56 (show List Rat from x1) k0=some z:=hz
 obtain ⟨y,hx1,hzr,hmk⟩:=ZDp hz
 have hx1:x1=[y]:=hx1
 subst hx1 hzr
 obtain ⟨h0,_,hb1,hb2⟩:=ZDa hmk
 obtain ⟨k,rfl⟩:=Int.eq_ofNat_of_zero_le h0
 obtain ⟨q,c,e,hc1,hc2,hne⟩:=(show (Zz Z1a).rel v cs [y] from p0)
 subst e
 rcases hne with hne | ⟨b,off,cc,TT,fr,rfl,hvb,hrel⟩
 ·cases hne
 have hlen1:([y]:List Rat).length=1:=rfl
 rw [hlen1] at hrel
 obtain ⟨c1,c2,e12,hrc,e2⟩:=hrel
 have e2:c2=[]:=e2
 subst e2
 rw [List.append_nil,Nat.one_mul] at e12
 have hl1:=Rep.len _ hrc
 have hAt:At v b off c1:=⟨cc,TT,fr,hvb,by rw [hl1];exact e12⟩
 refine ⟨fun _ _=>by kernel_rfl,?_⟩
 have hk:((k:Int).toNat)=k:=Int.toNat_natCast k
 rw [hk]
 refine Zpn (K:=48) (args:=[.slice (some ⟨b,off,none⟩) 1 c,.int .i64 (k:Int)]) hv Tryz.func97 rfl rfl zl fun fa hS=>?_
 refine sr ?_
 refine mw hS rfl fun fa hS=>?_
 refine oe ?_
 refine wp_seq_k fun N1 hN1=>?_
 refine sr ?_
 refine mv hS rfl fun fa hS=>?_
 refine ov hS rfl (Ze hS rfl rfl ZHb) fun fa hS=>?_
 refine oe ?_
 refine ZM hS rfl (decide_eq_false (by omega)) ?_
 refine wp_skip ?_
 refine Zf (hN1 _ _ ?_)
 refine sr ?_
 refine mv hS rfl fun fa hS=>?_
 refine ov hS rfl (ZWd hS rfl rfl Zbi) fun fa hS=>?_
 refine ov hS rfl (Zed hS rfl (Z1m _)) fun fa hS=>?_
 refine mv hS rfl fun fa hS=>?_
 refine ov hS rfl (Zed hS rfl (Z1m _)) fun fa hS=>?_
 have w1:IntKind.u64.wrap ((1:Nat):Int)=1:=by decide
 have w2:IntKind.u64.wrap (k:Int)=k:=Zvd (ZTc.2 (by omega))
 rw [w1,w2] at hS
 have hmul:Ztj 1 (k:Int)=some (0,(k:Int)):=by
  unfold Ztj Z5b;rw [if_pos (by omega),Za];simp only;congr 2 <;> omega
 refine ZTn hS wn rfl zl (Z7 hS [.int .u64 1,.int .u64 (k:Int)] Z2r rfl rfl) (bmul_w hS.vin (show Rep.rel (Zc .u64) _ [.int .u64 1] 1 from ZC (by decide)) (show Rep.rel (Zc .u64) _ [.int .u64 (k:Int)] (k:Int) from ZC (ZTc.2 (by omega))) hmul) ?_;rintro _ v1 fa wo hle ⟨r0,r1,rfl,⟨rfl,_⟩,⟨rfl,_⟩⟩ hS;refine mv hS rfl fun fa hS=>?_;refine ov hS rfl (Zpa hS rfl rfl) fun fa hS=>?_;refine ov hS rfl (Zpa hS rfl rfl) fun fa hS=>?_;refine mw hS rfl fun fa hS=>?_;refine mw hS rfl fun fa hS=>?_;refine oe ?_;refine wp_seq_k fun N2 hN2=>?_;refine sr ?_;refine mv hS rfl fun fa hS=>?_;refine ov hS rfl (Ze hS rfl rfl Zuc) fun fa hS=>?_;have g1:decide ((0:Int)<0)=false:=rfl;have hS:St _ _ _ ((22,Value.bool false) :: _) _ _ _ _:=hS;refine mv hS rfl fun fa hS=>?_;refine op_v hS (Z5e hS rfl rfl rfl zl) rfl zl (Zv hS rfl) fun fa hS=>?_;refine op_v hS (Z5e hS rfl rfl rfl zl) rfl zl (Ze hS rfl rfl Zuc) fun fa hS=>?_;refine ov hS rfl (Zlb (b:=false) hS rfl rfl) fun fa hS=>?_;refine oe ?_;refine ZM hS rfl (decide_eq_false (by omega)) ?_;refine wp_skip ?_;refine Zf (hN2 _ _ ?_);refine sr ?_;refine mv hS rfl fun fa hS=>?_;refine ov hS rfl (Zed hS rfl (ZRr _)) fun fa hS=>?_;have w3:IntKind.i64.wrap (k:Int)=k:=Zvd (ZZb.2 (by omega));rw [w3] at hS;obtain ⟨b2,wo,hrun,hS'⟩:=Zek ZJl hS (l:=(k:Int)) (c:=(k:Int)) h0 (Int.le_refl _) hb1 hb2
 refine Zhb wn rfl zl (hrun rfl rfl) hS' fun fa hS=>?_;refine mw hS rfl fun fa hS=>?_;refine oe ?_;rw [hk] at hS;have hS:=hS.fr' (σ':=[(7,.slice (mkA (some b2)) k k),(0,.slice (some ⟨b,off,none⟩) 1 c)]) rfl;have src1:∀ {σ:List (Nat×Value)} {ℓ:List Loc} {v':Zb} {a:Act} {w':World},St 48 w v σ ℓ v' a w'→∀ j u,c1[j]? = some u→w'.cell? ((⟨b,off,none⟩:Addr).add j)=some u:=fun hS j u hu=>by
  have:=(hS.view (At.mono hS.vst.le hAt)).cell hu
  rwa [ZMa]
 have hpl1:c1.all plain=true:=Rep.flat _ hrc;obtain ⟨zc,hzc⟩:∃ zc:List Value,zc=(Value.agg #[Value.bool false,Value.slice none 0 0,Value.slice none 0 0]:Value).cells.toList:=⟨_,rfl⟩;have hzl:zc.length=(Z1a).n:=by rw [hzc];rfl
 rw [← hzc] at hS
 let Inv:Nat→Act→World→Prop:=fun j a w'=>∃ v',j≤k∧(0<k→0<j)∧St 48 w v [(8,.int .i64 (j:Int)),(7,.slice (mkA (some b2)) k k)] [.own (some b2) 36 (Z1a).n k k ((List.replicate j c1).flatten++(List.replicate (k-j) zc).flatten)] v' a w'
 have rl:=fun n=>Z7h hl1 n;have rpl:∀ n:Nat,((List.replicate n c1).flatten).all plain=true:=fun n=>Zar hpl1 n;have step:=fun j m (hjm:j+m≤k)=>rp_step (k:=k) hl1 hzl hjm;refine sr ?_;refine mv hS rfl fun fa hS=>?_;refine mv hS rfl fun fa hS=>?_;have hS1:St 48 w v _ [.own (some b2) 36 (Z1a).n k k ((List.replicate 0 c1).flatten++(List.replicate (k-0) zc).flatten)] v1 fa wo:=hS;obtain ⟨wo2,hr,hS'⟩:=ZBn (t:=41) (sT:=41) ZJl hS1 (i:=0) rfl (p:=0) (k:=min 1 k) (c:=(List.replicate (min 1 k) c1).flatten) (rl _) (by omega) (rpl _) (ad:=⟨b,off,none⟩) (sLen:=1) (sCap:=c) (dLen:=k) (dCap:=k) (fun j u hu=>by
  rcases Nat.lt_or_ge 0 k with hk0 | hk0
  ·rw [show min 1 k=1 by omega] at hu;simp only [List.replicate_one,List.flatten_cons,List.flatten_nil,List.append_nil] at hu;exact src1 hS1 j u hu
  ·rw [show min 1 k=0 by omega] at hu;simp at hu) rfl
 have hst:=step 0 (min 1 k) (by omega);simp only [List.set_cons_zero] at hS';rw [hst] at hS';simp only [Nat.zero_add] at hS';rw [Nat.zero_mul] at hr;refine Zhb wn rfl zl (ZYm hS1 rfl rfl (hr _)) hS' fun fa hS=>?_;refine mw hS rfl fun fa hS=>?_;refine oe ?_;have hS:=hS.fr' (σ':=[(8,.int .i64 ((min 1 k:Nat):Int)),(7,.slice (mkA (some b2)) k k)]) rfl;refine wp_seq_k fun N3 hN3=>?_;refine wp_block ?_;refine wp_loop_fuel (fun m a w'=>∃ j,k-j<m∧Inv j a w') (k+1) ⟨min 1 k,by omega,v1,by omega,by omega,hS⟩ (fun a w' ⟨j,h,_⟩=>by omega) ?_;rintro m fa wo3 ⟨j,hjm,v3,hjk,hj0,hS⟩ N hN;refine wp_seq_k fun N4 hN4=>?_;refine sr ?_;refine mv hS rfl fun fa hS=>?_;refine mv hS rfl fun fa hS=>?_;refine ov hS rfl (ZWd hS rfl rfl Zbi) fun fa hS=>?_;refine ov hS rfl (Ze hS rfl rfl ZHb) fun fa hS=>?_;refine oe ?_;by_cases hlt:j<k
 ·refine ZQ hS rfl (decide_eq_true (by omega)) ?_;refine wp_skip ?_;refine Zf (hN4 _ _ ?_);refine wp_block ?_;have hS:=hS.fr' (σ':=[(8,.int .i64 (j:Int)),(7,.slice (mkA (some b2)) k k)]) rfl;refine ZTd (fl:=#[true,true,true,true,true,true,true,false,false,false]) ZVq (by kernel_rfl) hS ?_;intro ops hops hF wo hS;refine rf hops hF 0 rfl (by kernel_rfl) rfl hS (Zv hS rfl) fun fa hS=>?_;refine rf hops hF 1 rfl (by kernel_rfl) rfl hS (Zv hS rfl) fun fa hS=>?_;refine rf hops hF 2 rfl (by kernel_rfl) rfl hS (Zv hS rfl) fun fa hS=>?_;refine rf hops hF 3 rfl (by kernel_rfl) rfl hS (ZOs hS Zbi rfl rfl (by omega) (by omega)) fun fa hS=>?_;refine rf hops hF 4 rfl (by kernel_rfl) rfl hS (Zv hS rfl) fun fa hS=>?_;refine rf hops hF 5 rfl (by kernel_rfl) rfl hS (Zv hS rfl) fun fa hS=>?_;refine rf hops hF 6 rfl (by kernel_rfl) rfl hS (ZVr hS Zbi rfl rfl (by omega) (by omega)) fun fa hS=>?_;rw [Nat.zero_add] at hS;obtain ⟨wo',hr,hS'⟩:=ZBn (t:=41) (sT:=41) ZJl hS (i:=0) rfl (p:=j) (k:=min j (k-j)) (c:=(List.replicate (min j (k-j)) c1).flatten) (rl _) (by omega) (rpl _) (ad:=⟨b2,0,none⟩) (sLen:=j) (sCap:=k) (dLen:=k-j) (dCap:=k-j) (fun i u hu=>by
   have hi:=(List.getElem?_eq_some_iff.1 hu).1;refine ZVh hS (j:=0) rfl i u ?_;rw [ZCm (c:=c1) (m:=min j (k-j)) (n:=j) (by omega),List.append_assoc,List.getElem?_append_left hi];exact hu) rfl
  have hst:=step j (min j (k-j)) (by omega);simp only [List.set_cons_zero] at hS';rw [hst] at hS';refine Zlj hops hF 7 (by kernel_rfl) ?_;refine nx_ex' [3,6,1,2,4,5] [0] hops rfl (by kernel_rfl) wn rfl zl (ZYm hS rfl rfl (hr _)) hS' fun fa hS=>?_;refine ⟨(py hS rfl rfl (Zv hS rfl) Z3b),?_⟩;refine Zlj hops hF 8 (by kernel_rfl) ?_;have hadd:chk .i64 ((j:Int)+((min j (k-j):Nat):Int))=some ((j+min j (k-j):Nat):Int):=by rw [Zu (by omega) (by omega)];rfl
  refine nv [0,7,3,6,1,2,4,5] [] hops rfl (by kernel_rfl) rfl hS (Ze hS rfl rfl (ZEa hadd)) fun fa hS=>?_;refine ⟨Z3b,?_⟩;refine Zlj hops hF 9 (by kernel_rfl) ?_;refine nv [0,1,2,3,4,5,6,7,8] [] hops rfl (by kernel_rfl) rfl hS (Z3c hS rfl) fun fa hS=>?_;refine ⟨Z3b,?_⟩;refine ZHo hops hF (by kernel_rfl) ?_;refine Zdb ?_;have hj0:=hj0 (by omega);exact Zf (hN _ _ ⟨j+min j (k-j),by omega,v3,by omega,fun _=>by omega,hS.fr' rfl⟩)
 refine ZM hS rfl (decide_eq_false (by omega)) ?_;refine wp_exit ?_;refine ZZ ?_;refine ZZ ?_;refine ZQa ?_;refine Zf (hN3 _ _ ?_);have hjk:j=k:=by omega
 subst hjk;rw [Nat.sub_self,List.replicate_zero,List.flatten_nil,List.append_nil] at hS;refine sr ?_;refine mv hS rfl fun fa hS=>?_;refine mw hS rfl fun fa hS=>?_;refine oe ?_;refine wp_ret ?_;exact Z1k hS (i:=0) rfl (ZFa rfl (ZR hS rfl)) (Zmd (Rep.mono _ hS.vst.le hrc) _) (List.length_replicate (n:=j) (a:=y)).symm
end Go.Eng
set_option maxRecDepth 100000
set_option maxHeartbeats 4000000
namespace Go.Eng
open Go.Proofs Go.RowKit
noncomputable def Z7i:FuncId×Con:=(48,⟨[.slice (.slice (.leaf 3))],[.slice (.slice (.leaf 3)),.int .i64],fun p=>ZAh p⟩)
theorem Zxq (m : List (List Rat)) : Zy ⟨Tryz.prog, [(32, 0), (34, 2), (36, 3)], [Z8b, ZZa, ZIe, ZZf, ZMh, ZYc], [], [Z1f], [], [((36, "Neg"), 70)]⟩ [(73, Tryz.f73, .no)] Tryz.f48 (.two .no (.two .no (.two .no (.two .no (.two (.two .no (.two (.cut ⟨⟨[0, 4, 5, 22], [], [.s 7 (.own 41 (.slice (.leaf 3))), .s 23 (.dat (.int .i64))]⟩, [(.exit 0, ⟨[], [], [.s 7 (.own 41 (.slice (.leaf 3)))]⟩)]⟩ (.two (.two .no (.two .no (.two (.cut ⟨⟨[], [], []⟩, [(.norm, ⟨[0, 4, 5, 22, 23], [], [.s 7 (.own 41 (.slice (.leaf 3)))]⟩)]⟩ (.two (.two .no (.two .no (.two .no (.two .no (.two (.two .no (.two (.cut ⟨⟨[0, 4, 5, 7, 8, 9, 22, 23, 36, 37], [], [.s 38 (.dat (.int .i64)), .l (.sl 9) (.own 36 (.leaf 3))]⟩, [(.exit 2, ⟨[0, 4, 5, 7, 9, 22, 23], [], [.l (.sl 9) (.own 36 (.leaf 3))]⟩)]⟩ .no) .no)) .no))))) .no)) .no))) .no)) .no)) .no))))) [.slice (.slice (.leaf 3))] [.slice (.slice (.leaf 3)), .int .i64] (m) = ZAh m := by kernel_rfl
theorem ZGt : Zw Tryz.prog Z7i.1 Z7i.2 := ZD (C := ⟨Tryz.prog, [(32, 0), (34, 2), (36, 3)], [Z8b, ZZa, ZIe, ZZf, ZMh, ZYc], [], [Z1f], [], [((36, "Neg"), 70)]⟩) ⟨Zwg, Z2d, Z6k, Zto, Zht, ZMi, trivial⟩ ⟨Zem, trivial⟩ trivial ⟨ZJo, trivial⟩ (inl := [(73, Tryz.f73, .no)]) ⟨⟨Tryz.func73, fun _ _ => by kernel_rfl⟩, trivial⟩ (ann := (.two .no (.two .no (.two .no (.two .no (.two (.two .no (.two (.cut ⟨⟨[0, 4, 5, 22], [], [.s 7 (.own 41 (.slice (.leaf 3))), .s 23 (.dat (.int .i64))]⟩, [(.exit 0, ⟨[], [], [.s 7 (.own 41 (.slice (.leaf 3)))]⟩)]⟩ (.two (.two .no (.two .no (.two (.cut ⟨⟨[], [], []⟩, [(.norm, ⟨[0, 4, 5, 22, 23], [], [.s 7 (.own 41 (.slice (.leaf 3)))]⟩)]⟩ (.two (.two .no (.two .no (.two .no (.two .no (.two (.two .no (.two (.cut ⟨⟨[0, 4, 5, 7, 8, 9, 22, 23, 36, 37], [], [.s 38 (.dat (.int .i64)), .l (.sl 9) (.own 36 (.leaf 3))]⟩, [(.exit 2, ⟨[0, 4, 5, 7, 9, 22, 23], [], [.l (.sl 9) (.own 36 (.leaf 3))]⟩)]⟩ .no) .no)) .no))))) .no)) .no))) .no)) .no)) .no)))))) Tryz.func48 (fun _ _ => by kernel_rfl) rfl fun v vals x z ha hz => (Zxq x).trans hz
end Go.Eng
set_option maxRecDepth 100000
set_option maxHeartbeats 4000000
namespace Go.Eng
open Go.Proofs Go.RowKit
noncomputable def Zjc:FuncId×Con:=(49,⟨[.slice (.leaf 3),.slice (.leaf 3)],[.leaf 3],fun p=>ZOc p.1 p.2⟩)
theorem ldot_i (x : List Rat) (y : List Rat) : Zy ⟨Tryz.prog, [(32, 0), (34, 2), (36, 3)], [Z9b, ZYc, Zxe], [], [], [], [((36, "Add"), 6), ((36, "Mul"), 84)]⟩ [] Tryz.f49 (.two .no (.two .no (.two (.two .no (.two (.cut ⟨⟨[0, 1, 4, 5, 9], [], [.s 10 (.dat (.int .i64)), .l (.sl 5) (.box 36 (.dat (.leaf 3)))]⟩, [(.exit 0, ⟨[4, 5], [], [.l (.sl 5) (.box 36 (.dat (.leaf 3)))]⟩)]⟩ .no) .no)) .no))) [.slice (.leaf 3), .slice (.leaf 3)] [.leaf 3] (x, y) = ZOc x y := by kernel_rfl
theorem ZKh : Zw Tryz.prog Zjc.1 Zjc.2 := ZD (C := ⟨Tryz.prog, [(32, 0), (34, 2), (36, 3)], [Z9b, ZYc, Zxe], [], [], [], [((36, "Add"), 6), ((36, "Mul"), 84)]⟩) ⟨Zuh, ZMi, ZMk, trivial⟩ trivial trivial ⟨ZTq, ZMo, trivial⟩ (inl := []) trivial (ann := (.two .no (.two .no (.two (.two .no (.two (.cut ⟨⟨[0, 1, 4, 5, 9], [], [.s 10 (.dat (.int .i64)), .l (.sl 5) (.box 36 (.dat (.leaf 3)))]⟩, [(.exit 0, ⟨[4, 5], [], [.l (.sl 5) (.box 36 (.dat (.leaf 3)))]⟩)]⟩ .no) .no)) .no)))) Tryz.func49 (fun _ _ => by kernel_rfl) rfl fun v vals x z ha hz => (ldot_i x.1 x.2).trans hz
end Go.Eng
set_option maxRecDepth 100000
set_option maxHeartbeats 4000000
namespace Go.Eng
open Go.Proofs Go.RowKit
noncomputable def Zlf:FuncId×Con:=(23,⟨[.slice (.slice (.leaf 3)),.slice (.leaf 3)],[.bool,.slice (.leaf 3),.int .i64],fun p=>Zof p.1 p.2⟩)
theorem ZXr (m : List (List Rat)) (c : List Rat) : Zy ⟨Tryz.prog, [(32, 0), (34, 2), (36, 3)], [ZXc, Z8b, ZZa, Z7i, Zjc], [], [], [], [((36, "Zero"), 13)]⟩ [] Tryz.f23 (.two .no (.two (.two (.cut ⟨⟨[], [], []⟩, [(.norm, ⟨[0, 1], [], [.s 20 (.dat .bool)]⟩)]⟩ .no) .no) (.two .no (.two (.two .no (.two (.cut ⟨⟨[1, 26, 27], [], [.s 28 (.dat (.int .i64))]⟩, [(.exit 0, ⟨[], [], []⟩), (.ret, ⟨[], [], [.s 0 (.dat .bool), .s 0 (.dat (.slice (.leaf 3))), .s 0 (.dat (.int .i64))]⟩)]⟩ .no) .no)) .no)))) [.slice (.slice (.leaf 3)), .slice (.leaf 3)] [.bool, .slice (.leaf 3), .int .i64] (m, c) = Zof m c := by kernel_rfl
theorem Zvn : Zw Tryz.prog Zlf.1 Zlf.2 := ZD (C := ⟨Tryz.prog, [(32, 0), (34, 2), (36, 3)], [ZXc, Z8b, ZZa, Z7i, Zjc], [], [], [], [((36, "Zero"), 13)]⟩) ⟨Zmi, Zwg, Z2d, ZGt, ZKh, trivial⟩ trivial trivial ⟨Z8n, trivial⟩ (inl := []) trivial (ann := (.two .no (.two (.two (.cut ⟨⟨[], [], []⟩, [(.norm, ⟨[0, 1], [], [.s 20 (.dat .bool)]⟩)]⟩ .no) .no) (.two .no (.two (.two .no (.two (.cut ⟨⟨[1, 26, 27], [], [.s 28 (.dat (.int .i64))]⟩, [(.exit 0, ⟨[], [], []⟩), (.ret, ⟨[], [], [.s 0 (.dat .bool), .s 0 (.dat (.slice (.leaf 3))), .s 0 (.dat (.int .i64))]⟩)]⟩ .no) .no)) .no))))) Tryz.func23 (fun _ _ => by kernel_rfl) rfl fun v vals x z ha hz => (ZXr x.1 x.2).trans hz
end Go.Eng
set_option maxRecDepth 100000
set_option maxHeartbeats 4000000
namespace Go.Eng
open Go.Proofs Go.RowKit
noncomputable def Zgi:FuncId×Con:=(8,⟨[.pair (.int .i64) (.pair (.int .i64) (.pair (.int .i64) (.int .i64))),.slice (.pair (.int .i64) (.pair (.int .i64) (.pair (.int .i64) (.pair (.int .i64) (.leaf 3))))),.int .i64,.int .i64],[.bool,.slice (.leaf 3),.int .i64],fun p=>ZJg p.1 p.2.1 p.2.2.1 p.2.2.2⟩)
theorem Zuq (z:Int×Int×Int×Int) (l:List (Int×Int×Int×Int×Rat)) (a:Int) (b:Int):Zy ⟨Tryz.prog,[(32,0),(34,2),(36,3)],[ZHf,Zlf],[],[],[],[]⟩ [] Tryz.f8 .no [.pair (.int .i64) (.pair (.int .i64) (.pair (.int .i64) (.int .i64))),.slice (.pair (.int .i64) (.pair (.int .i64) (.pair (.int .i64) (.pair (.int .i64) (.leaf 3))))),.int .i64,.int .i64] [.bool,.slice (.leaf 3),.int .i64] (z,l,a,b)=ZJg z l a b:=by kernel_rfl
theorem ZPt:Zw Tryz.prog Zgi.1 Zgi.2:=ZD (C:=⟨Tryz.prog,[(32,0),(34,2),(36,3)],[ZHf,Zlf],[],[],[],[]⟩) ⟨Z9l,Zvn,trivial⟩ trivial trivial trivial (inl:=[]) trivial (ann:=.no) Tryz.func8 (fun _ _=>by kernel_rfl) rfl fun v vals x z ha hz=>(Zuq x.1 x.2.1 x.2.2.1 x.2.2.2).trans hz
end Go.Eng
set_option maxRecDepth 100000
set_option maxHeartbeats 4000000
namespace Go.Eng
open Go.Proofs Go.RowKit
noncomputable def Z9i:FuncId×Con:=(75,⟨[.slice (.slice (.leaf 3)),.slice (.slice (.leaf 3))],[.slice (.slice (.leaf 3))],fun p=>ZFg p.1 p.2⟩)
theorem Zls (m:List (List Rat)) (b:List (List Rat)):Zy ⟨Tryz.prog,[(32,0),(34,2),(36,3)],[],[8],[Z2f],[],[]⟩ [(95,Tryz.f95,.two .no (.two .no (.two (.two .no (.two (.cut ⟨⟨[3,9,10],[],[.s 11 (.dat (.int .i64)),.l (.sl 3) (.mat 41 36 (.leaf 3))]⟩,[(.exit 0,⟨[3],[],[.l (.sl 3) (.mat 41 36 (.leaf 3))]⟩)]⟩ .no) .no)) .no)))] Tryz.f75 (.two .no (.two .no (.two (.two .no (.two (.cut ⟨⟨[1,5,10],[],[.s 11 (.dat (.int .i64)),.l (.sl 5) (.mat 41 36 (.leaf 3))]⟩,[(.exit 0,⟨[5],[],[.l (.sl 5) (.mat 41 36 (.leaf 3))]⟩)]⟩ .no) .no)) .no))) [.slice (.slice (.leaf 3)),.slice (.slice (.leaf 3))] [.slice (.slice (.leaf 3))] (m,b)=ZFg m b:=by kernel_rfl
theorem ZWt:Zw Tryz.prog Z9i.1 Z9i.2:=ZD (C:=⟨Tryz.prog,[(32,0),(34,2),(36,3)],[],[8],[Z2f],[],[]⟩) trivial ⟨Zwm,trivial⟩ trivial trivial (inl:=[(95,Tryz.f95,.two .no (.two .no (.two (.two .no (.two (.cut ⟨⟨[3,9,10],[],[.s 11 (.dat (.int .i64)),.l (.sl 3) (.mat 41 36 (.leaf 3))]⟩,[(.exit 0,⟨[3],[],[.l (.sl 3) (.mat 41 36 (.leaf 3))]⟩)]⟩ .no) .no)) .no)))]) ⟨⟨Tryz.func95,fun _ _=>by kernel_rfl⟩,trivial⟩ (ann:=(.two .no (.two .no (.two (.two .no (.two (.cut ⟨⟨[1,5,10],[],[.s 11 (.dat (.int .i64)),.l (.sl 5) (.mat 41 36 (.leaf 3))]⟩,[(.exit 0,⟨[5],[],[.l (.sl 5) (.mat 41 36 (.leaf 3))]⟩)]⟩ .no) .no)) .no)))) Tryz.func75 (fun _ _=>by kernel_rfl) rfl fun v vals x z ha hz=>(Zls x.1 x.2).trans hz
end Go.Eng
set_option maxRecDepth 100000
set_option maxHeartbeats 4000000
namespace Go.Eng
open Go.Proofs Go.RowKit
noncomputable def Zpi:FuncId×Con:=(76,⟨[.slice (.leaf 3)],[.slice (.slice (.leaf 3))],fun p=>Zph p⟩)
theorem ZJp (b:List Rat):Zy ⟨Tryz.prog,[(32,0),(34,2),(36,3)],[],[8],[],[],[]⟩ [] Tryz.f76 (.two .no (.two .no (.two (.two .no (.two (.cut ⟨⟨[3,9,10],[],[.s 11 (.dat (.int .i64)),.l (.sl 3) (.mat 41 36 (.leaf 3))]⟩,[(.exit 0,⟨[3],[],[.l (.sl 3) (.mat 41 36 (.leaf 3))]⟩)]⟩ .no) .no)) .no))) [.slice (.leaf 3)] [.slice (.slice (.leaf 3))] (b)=Zph b:=by kernel_rfl
theorem Z9s:Zw Tryz.prog Zpi.1 Zpi.2:=ZD (C:=⟨Tryz.prog,[(32,0),(34,2),(36,3)],[],[8],[],[],[]⟩) trivial trivial trivial trivial (inl:=[]) trivial (ann:=(.two .no (.two .no (.two (.two .no (.two (.cut ⟨⟨[3,9,10],[],[.s 11 (.dat (.int .i64)),.l (.sl 3) (.mat 41 36 (.leaf 3))]⟩,[(.exit 0,⟨[3],[],[.l (.sl 3) (.mat 41 36 (.leaf 3))]⟩)]⟩ .no) .no)) .no)))) Tryz.func76 (fun _ _=>by kernel_rfl) rfl fun v vals x z ha hz=>(ZJp x).trans hz
end Go.Eng
set_option maxRecDepth 100000
set_option maxHeartbeats 4000000
namespace Go.Eng
open Go.Proofs Go.RowKit
noncomputable def Zai:FuncId×Con:=(50,⟨[.slice (.slice (.leaf 3)),.slice (.leaf 3)],[.slice (.leaf 3),.int .i64],fun p=>ZZg p.1 p.2⟩)
theorem Any_i (m:List (List Rat)) (b:List Rat):Zy ⟨Tryz.prog,[(32,0),(34,2),(36,3)],[Z8b,ZZa,ZZf,ZYc,Z9i,Zpi],[],[Z1f],[],[]⟩ [(73,Tryz.f73,.no)] Tryz.f50 (.two .no (.two (.two (.cut ⟨⟨[],[],[]⟩,[(.norm,⟨[0,1],[],[.s 23 (.dat .bool)]⟩)]⟩ .no) .no) (.two .no (.two .no (.two (.two .no (.two (.cut ⟨⟨[],[],[]⟩,[(.norm,⟨[6,7,8],[],[.s 47 (.dat .bool)]⟩)]⟩ .no) .no)) (.two .no (.two (.two .no (.two (.cut ⟨⟨[6,7,11,50,51],[],[.s 52 (.dat (.int .i64)),.l (.sl 11) (.own 36 (.leaf 3))]⟩,[(.exit 0,⟨[11],[],[.l (.sl 11) (.own 36 (.leaf 3))]⟩)]⟩ .no) .no)) .no))))))) [.slice (.slice (.leaf 3)),.slice (.leaf 3)] [.slice (.leaf 3),.int .i64] (m,b)=ZZg m b:=by kernel_rfl
theorem Any_k:Zw Tryz.prog Zai.1 Zai.2:=ZD (C:=⟨Tryz.prog,[(32,0),(34,2),(36,3)],[Z8b,ZZa,ZZf,ZYc,Z9i,Zpi],[],[Z1f],[],[]⟩) ⟨Zwg,Z2d,Zto,ZMi,ZWt,Z9s,trivial⟩ ⟨Zem,trivial⟩ trivial trivial (inl:=[(73,Tryz.f73,.no)]) ⟨⟨Tryz.func73,fun _ _=>by kernel_rfl⟩,trivial⟩ (ann:=(.two .no (.two (.two (.cut ⟨⟨[],[],[]⟩,[(.norm,⟨[0,1],[],[.s 23 (.dat .bool)]⟩)]⟩ .no) .no) (.two .no (.two .no (.two (.two .no (.two (.cut ⟨⟨[],[],[]⟩,[(.norm,⟨[6,7,8],[],[.s 47 (.dat .bool)]⟩)]⟩ .no) .no)) (.two .no (.two (.two .no (.two (.cut ⟨⟨[6,7,11,50,51],[],[.s 52 (.dat (.int .i64)),.l (.sl 11) (.own 36 (.leaf 3))]⟩,[(.exit 0,⟨[11],[],[.l (.sl 11) (.own 36 (.leaf 3))]⟩)]⟩ .no) .no)) .no)))))))) Tryz.func50 (fun _ _=>by kernel_rfl) rfl fun v vals x z ha hz=>(Any_i x.1 x.2).trans hz
end Go.Eng
set_option maxRecDepth 100000
set_option maxHeartbeats 4000000
namespace Go.Eng
open Go.Proofs Go.RowKit
noncomputable def ZUi:FuncId×Con:=(33,⟨[.slice (.slice (.leaf 3)),.slice (.leaf 3)],[.slice (.leaf 3)],fun p=>Zlh p.1 p.2⟩)
theorem Zbr (m:List (List Rat)) (x:List Rat):Zy ⟨Tryz.prog,[(32,0),(34,2),(36,3)],[Zjc],[],[],[],[]⟩ [] Tryz.f33 (.two .no (.two .no (.two (.two .no (.two (.cut ⟨⟨[1,8,9],[],[.s 5 (.own 36 (.leaf 3)),.s 10 (.dat (.int .i64))]⟩,[(.exit 0,⟨[],[],[.s 5 (.own 36 (.leaf 3))]⟩)]⟩ .no) .no)) .no))) [.slice (.slice (.leaf 3)),.slice (.leaf 3)] [.slice (.leaf 3)] (m,x)=Zlh m x:=by kernel_rfl
theorem Zms:Zw Tryz.prog ZUi.1 ZUi.2:=ZD (C:=⟨Tryz.prog,[(32,0),(34,2),(36,3)],[Zjc],[],[],[],[]⟩) ⟨ZKh,trivial⟩ trivial trivial trivial (inl:=[]) trivial (ann:=(.two .no (.two .no (.two (.two .no (.two (.cut ⟨⟨[1,8,9],[],[.s 5 (.own 36 (.leaf 3)),.s 10 (.dat (.int .i64))]⟩,[(.exit 0,⟨[],[],[.s 5 (.own 36 (.leaf 3))]⟩)]⟩ .no) .no)) .no)))) Tryz.func33 (fun _ _=>by kernel_rfl) rfl fun v vals x z ha hz=>(Zbr x.1 x.2).trans hz
end Go.Eng
set_option maxRecDepth 100000
set_option maxHeartbeats 4000000
namespace Go.Eng
open Go.Proofs Go.RowKit
noncomputable def Zxj:FuncId×Con:=(123,⟨[.leaf 3],[.leaf 3],fun p=>Zuk p⟩)
theorem qconj_i (x:Rat):Zy ⟨Tryz.prog,[(32,0),(34,2),(36,3)],[],[],[],[],[]⟩ [] Tryz.f123 .no [.leaf 3] [.leaf 3] (x)=Zuk x:=by kernel_rfl
theorem qconj_k:Zw Tryz.prog Zxj.1 Zxj.2:=ZD (C:=⟨Tryz.prog,[(32,0),(34,2),(36,3)],[],[],[],[],[]⟩) trivial trivial trivial trivial (inl:=[]) trivial (ann:=.no) Tryz.func123 (fun _ _=>by kernel_rfl) rfl fun v vals x z ha hz=>(qconj_i x).trans hz
end Go.Eng
set_option maxRecDepth 100000
set_option maxHeartbeats 4000000
namespace Go.Eng
open Go.Proofs Go.RowKit
noncomputable def ZDj:FuncId×Con:=(78,⟨[.leaf 3],[.leaf 3],fun p=>ZRh p⟩)
theorem lconj_i (x : Rat) : Zy ⟨Tryz.prog, [(32, 0), (34, 2), (36, 3)], [Zxj], [], [], [], [((36, "Conj"), 123)]⟩ [] Tryz.f78 .no [.leaf 3] [.leaf 3] (x) = ZRh x := by kernel_rfl
theorem lconj_k : Zw Tryz.prog ZDj.1 ZDj.2 := ZD (C := ⟨Tryz.prog, [(32, 0), (34, 2), (36, 3)], [Zxj], [], [], [], [((36, "Conj"), 123)]⟩) ⟨qconj_k, trivial⟩ trivial trivial ⟨Z7q, trivial⟩ (inl := []) trivial (ann := .no) Tryz.func78 (fun _ _ => by kernel_rfl) rfl fun v vals x z ha hz => (lconj_i x).trans hz
end Go.Eng
set_option maxRecDepth 100000
set_option maxHeartbeats 4000000
namespace Go.Eng
open Go.Proofs Go.RowKit
noncomputable def Z2h:FuncId×Con:=(98,⟨[.leaf 3],[.leaf 3],fun p=>ZFj p⟩)
theorem Zfs (x:Rat):Zy ⟨Tryz.prog,[(32,0),(34,2),(36,3)],[],[],[],[],[]⟩ [] Tryz.f98 .no [.leaf 3] [.leaf 3] (x)=ZFj x:=by kernel_rfl
theorem ZEr:Zw Tryz.prog Z2h.1 Z2h.2:=ZD (C:=⟨Tryz.prog,[(32,0),(34,2),(36,3)],[],[],[],[],[]⟩) trivial trivial trivial trivial (inl:=[]) trivial (ann:=.no) Tryz.func98 (fun _ _=>by kernel_rfl) rfl fun v vals x z ha hz=>(Zfs x).trans hz
end Go.Eng
set_option maxRecDepth 100000
set_option maxHeartbeats 4000000
namespace Go.Eng
open Go.Proofs Go.RowKit
noncomputable def ZGj:FuncId×Con:=(79,⟨[.slice (.slice (.leaf 3)),.slice (.slice (.leaf 3))],[.slice (.slice (.leaf 3))],fun p=>ZHh p.1 p.2⟩)
theorem ZRt (a:List (List Rat)) (b:List (List Rat)):Zy ⟨Tryz.prog,[(32,0),(34,2),(36,3)],[ZZa,Zjc,Z2h],[12,15],[],[],[]⟩ [(77,Tryz.f77,.cut ⟨⟨[],[],[]⟩,[(.ret,⟨[],[],[.s 0 (.dat (.slice (.slice (.leaf 3))))]⟩)]⟩ (.two .no (.two .no (.two (.two .no (.two (.cut ⟨⟨[1,5,13,14],[],[.s 15 (.dat (.int .i64)),.l (.sl 5) (.mat 41 36 (.leaf 3))]⟩,[(.exit 0,⟨[5],[],[.l (.sl 5) (.mat 41 36 (.leaf 3))]⟩)]⟩ (.two (.two .no (.two .no (.two (.two (.two .no (.two .no (.two (.cut ⟨⟨[1,5,13,14,15,19,20],[],[.s 21 (.dat (.int .i64)),.l (.sl 5) (.mat 41 36 (.leaf 3))]⟩,[(.exit 2,⟨[1,5,13,14,15],[],[.l (.sl 5) (.mat 41 36 (.leaf 3))]⟩)]⟩ .no) .no))) .no) .no))) .no)) .no)) .no))))] Tryz.f79 (.two .no (.two .no (.two .no (.two (.two .no (.two (.cut ⟨⟨[5,6,16,17],[],[.s 18 (.dat (.int .i64)),.l (.sl 6) (.mat 41 36 (.leaf 3))]⟩,[(.exit 0,⟨[6],[],[.l (.sl 6) (.mat 41 36 (.leaf 3))]⟩)]⟩ (.two (.two .no (.two .no (.two (.two (.two .no (.two .no (.two (.cut ⟨⟨[5,6,7,8,16,17,18,23,24],[],[.s 25 (.dat (.int .i64)),.l (.sl 6) (.mat 41 36 (.leaf 3))]⟩,[(.exit 2,⟨[5,6,16,17,18],[],[.l (.sl 6) (.mat 41 36 (.leaf 3))]⟩)]⟩ .no) .no))) .no) .no))) .no)) .no)) .no)))) [.slice (.slice (.leaf 3)),.slice (.slice (.leaf 3))] [.slice (.slice (.leaf 3))] (a,b)=ZHh a b:=by kernel_rfl
theorem Zyq:Zw Tryz.prog ZGj.1 ZGj.2:=ZD (C:=⟨Tryz.prog,[(32,0),(34,2),(36,3)],[ZZa,Zjc,Z2h],[12,15],[],[],[]⟩) ⟨Z2d,ZKh,ZEr,trivial⟩ trivial trivial trivial (inl:=[(77,Tryz.f77,.cut ⟨⟨[],[],[]⟩,[(.ret,⟨[],[],[.s 0 (.dat (.slice (.slice (.leaf 3))))]⟩)]⟩ (.two .no (.two .no (.two (.two .no (.two (.cut ⟨⟨[1,5,13,14],[],[.s 15 (.dat (.int .i64)),.l (.sl 5) (.mat 41 36 (.leaf 3))]⟩,[(.exit 0,⟨[5],[],[.l (.sl 5) (.mat 41 36 (.leaf 3))]⟩)]⟩ (.two (.two .no (.two .no (.two (.two (.two .no (.two .no (.two (.cut ⟨⟨[1,5,13,14,15,19,20],[],[.s 21 (.dat (.int .i64)),.l (.sl 5) (.mat 41 36 (.leaf 3))]⟩,[(.exit 2,⟨[1,5,13,14,15],[],[.l (.sl 5) (.mat 41 36 (.leaf 3))]⟩)]⟩ .no) .no))) .no) .no))) .no)) .no)) .no))))]) ⟨⟨Tryz.func77,fun _ _=>by kernel_rfl⟩,trivial⟩ (ann:=(.two .no (.two .no (.two .no (.two (.two .no (.two (.cut ⟨⟨[5,6,16,17],[],[.s 18 (.dat (.int .i64)),.l (.sl 6) (.mat 41 36 (.leaf 3))]⟩,[(.exit 0,⟨[6],[],[.l (.sl 6) (.mat 41 36 (.leaf 3))]⟩)]⟩ (.two (.two .no (.two .no (.two (.two (.two .no (.two .no (.two (.cut ⟨⟨[5,6,7,8,16,17,18,23,24],[],[.s 25 (.dat (.int .i64)),.l (.sl 6) (.mat 41 36 (.leaf 3))]⟩,[(.exit 2,⟨[5,6,16,17,18],[],[.l (.sl 6) (.mat 41 36 (.leaf 3))]⟩)]⟩ .no) .no))) .no) .no))) .no)) .no)) .no))))) Tryz.func79 (fun _ _=>by kernel_rfl) rfl fun v vals x z ha hz=>(ZRt x.1 x.2).trans hz
end Go.Eng
set_option maxRecDepth 100000
set_option maxHeartbeats 4000000
namespace Go.Eng
open Go.Proofs Go.RowKit
noncomputable def Z4h:FuncId×Con:=(51,⟨[.slice (.slice (.leaf 3)),.slice (.leaf 3)],[.slice (.slice (.leaf 3)),.slice (.leaf 3)],fun p=>Zxg p.1 p.2⟩)
theorem Z2s (m:List (List Rat)) (b:List Rat):Zy ⟨Tryz.prog,[(32,0),(34,2),(36,3)],[ZZa,ZUi,ZDj,ZGj],[12],[],[],[]⟩ [(77,Tryz.f77,.cut ⟨⟨[],[],[]⟩,[(.ret,⟨[],[],[.s 0 (.dat (.slice (.slice (.leaf 3))))]⟩)]⟩ (.two .no (.two .no (.two (.two .no (.two (.cut ⟨⟨[1,5,13,14],[],[.s 15 (.dat (.int .i64)),.l (.sl 5) (.mat 41 36 (.leaf 3))]⟩,[(.exit 0,⟨[5],[],[.l (.sl 5) (.mat 41 36 (.leaf 3))]⟩)]⟩ (.two (.two .no (.two .no (.two (.two (.two .no (.two .no (.two (.cut ⟨⟨[1,5,13,14,15,19,20],[],[.s 21 (.dat (.int .i64)),.l (.sl 5) (.mat 41 36 (.leaf 3))]⟩,[(.exit 2,⟨[1,5,13,14,15],[],[.l (.sl 5) (.mat 41 36 (.leaf 3))]⟩)]⟩ .no) .no))) .no) .no))) .no)) .no)) .no))))] Tryz.f51 .no [.slice (.slice (.leaf 3)),.slice (.leaf 3)] [.slice (.slice (.leaf 3)),.slice (.leaf 3)] (m,b)=Zxg m b:=by kernel_rfl
theorem Z0p:Zw Tryz.prog Z4h.1 Z4h.2:=ZD (C:=⟨Tryz.prog,[(32,0),(34,2),(36,3)],[ZZa,ZUi,ZDj,ZGj],[12],[],[],[]⟩) ⟨Z2d,Zms,lconj_k,Zyq,trivial⟩ trivial trivial trivial (inl:=[(77,Tryz.f77,.cut ⟨⟨[],[],[]⟩,[(.ret,⟨[],[],[.s 0 (.dat (.slice (.slice (.leaf 3))))]⟩)]⟩ (.two .no (.two .no (.two (.two .no (.two (.cut ⟨⟨[1,5,13,14],[],[.s 15 (.dat (.int .i64)),.l (.sl 5) (.mat 41 36 (.leaf 3))]⟩,[(.exit 0,⟨[5],[],[.l (.sl 5) (.mat 41 36 (.leaf 3))]⟩)]⟩ (.two (.two .no (.two .no (.two (.two (.two .no (.two .no (.two (.cut ⟨⟨[1,5,13,14,15,19,20],[],[.s 21 (.dat (.int .i64)),.l (.sl 5) (.mat 41 36 (.leaf 3))]⟩,[(.exit 2,⟨[1,5,13,14,15],[],[.l (.sl 5) (.mat 41 36 (.leaf 3))]⟩)]⟩ .no) .no))) .no) .no))) .no)) .no)) .no))))]) ⟨⟨Tryz.func77,fun _ _=>by kernel_rfl⟩,trivial⟩ (ann:=.no) Tryz.func51 (fun _ _=>by kernel_rfl) rfl fun v vals x z ha hz=>(Z2s x.1 x.2).trans hz
end Go.Eng
set_option maxRecDepth 100000
set_option maxHeartbeats 4000000
namespace Go.Eng
open Go.Proofs Go.RowKit
noncomputable def Zej:FuncId×Con:=(24,⟨[.slice (.slice (.leaf 3)),.slice (.leaf 3),.slice (.leaf 3)],[.leaf 3,.int .i64],fun p=>Z9e p.1 p.2.1 p.2.2⟩)
theorem ZGp (m:List (List Rat)) (b:List Rat) (c:List Rat):Zy ⟨Tryz.prog,[(32,0),(34,2),(36,3)],[Zlf,Z8b,ZZa,Zjc,Zai,Z4h],[],[],[],[]⟩ [] Tryz.f24 (.two .no (.two .no (.two (.two (.cut ⟨⟨[],[],[]⟩,[(.norm,⟨[0,1,2,6,8],[],[.s 30 (.dat .bool)]⟩)]⟩ .no) .no) .no))) [.slice (.slice (.leaf 3)),.slice (.leaf 3),.slice (.leaf 3)] [.leaf 3,.int .i64] (m,b,c)=Z9e m b c:=by kernel_rfl
theorem ZUr:Zw Tryz.prog Zej.1 Zej.2:=ZD (C:=⟨Tryz.prog,[(32,0),(34,2),(36,3)],[Zlf,Z8b,ZZa,Zjc,Zai,Z4h],[],[],[],[]⟩) ⟨Zvn,Zwg,Z2d,ZKh,Any_k,Z0p,trivial⟩ trivial trivial trivial (inl:=[]) trivial (ann:=(.two .no (.two .no (.two (.two (.cut ⟨⟨[],[],[]⟩,[(.norm,⟨[0,1,2,6,8],[],[.s 30 (.dat .bool)]⟩)]⟩ .no) .no) .no)))) Tryz.func24 (fun _ _=>by kernel_rfl) rfl fun v vals x z ha hz=>(ZGp x.1 x.2.1 x.2.2).trans hz
end Go.Eng
set_option maxRecDepth 100000
set_option maxHeartbeats 4000000
namespace Go.Eng
open Go.Proofs Go.RowKit
noncomputable def Zuj:FuncId×Con:=(9,⟨[.pair (.int .i64) (.pair (.int .i64) (.pair (.int .i64) (.int .i64))),.slice (.pair (.int .i64) (.pair (.int .i64) (.pair (.int .i64) (.pair (.int .i64) (.leaf 3))))),.int .i64,.int .i64],[.leaf 3,.int .i64],fun p=>Zje p.1 p.2.1 p.2.2.1 p.2.2.2⟩)
theorem Z6q (z:Int×Int×Int×Int) (l:List (Int×Int×Int×Int×Rat)) (a:Int) (b:Int):Zy ⟨Tryz.prog,[(32,0),(34,2),(36,3)],[ZHf,Zej],[],[],[],[]⟩ [] Tryz.f9 (.two .no (.two .no (.two .no (.two .no (.two (.two .no (.two (.cut ⟨⟨[8,10,11,29,30],[],[.s 13 (.own 36 (.leaf 3)),.s 31 (.dat (.int .i64))]⟩,[(.exit 0,⟨[8,10,11],[],[.s 13 (.own 36 (.leaf 3))]⟩)]⟩ .no) .no)) .no))))) [.pair (.int .i64) (.pair (.int .i64) (.pair (.int .i64) (.int .i64))),.slice (.pair (.int .i64) (.pair (.int .i64) (.pair (.int .i64) (.pair (.int .i64) (.leaf 3))))),.int .i64,.int .i64] [.leaf 3,.int .i64] (z,l,a,b)=Zje z l a b:=by kernel_rfl
theorem Zps:Zw Tryz.prog Zuj.1 Zuj.2:=ZD (C:=⟨Tryz.prog,[(32,0),(34,2),(36,3)],[ZHf,Zej],[],[],[],[]⟩) ⟨Z9l,ZUr,trivial⟩ trivial trivial trivial (inl:=[]) trivial (ann:=(.two .no (.two .no (.two .no (.two .no (.two (.two .no (.two (.cut ⟨⟨[8,10,11,29,30],[],[.s 13 (.own 36 (.leaf 3)),.s 31 (.dat (.int .i64))]⟩,[(.exit 0,⟨[8,10,11],[],[.s 13 (.own 36 (.leaf 3))]⟩)]⟩ .no) .no)) .no)))))) Tryz.func9 (fun _ _=>by kernel_rfl) rfl fun v vals x z ha hz=>(Z6q x.1 x.2.1 x.2.2.1 x.2.2.2).trans hz
end Go.Eng
set_option maxRecDepth 100000
set_option maxHeartbeats 4000000
namespace Go.Eng
open Go.Proofs Go.RowKit
noncomputable def Zyi:FuncId×Con:=(11,⟨[.leaf 3,.leaf 3],[.bool],fun p=>Zgf p.1 p.2⟩)
theorem qsame_i (x:Rat) (y:Rat):Zy ⟨Tryz.prog,[(32,0),(34,2),(36,3)],[Zag],[],[],[],[]⟩ [] Tryz.f11 (.two .no (.two (.cut ⟨⟨[],[],[]⟩,[(.norm,⟨[],[],[.s 4 (.dat .bool)]⟩)]⟩ .no) .no)) [.leaf 3,.leaf 3] [.bool] (x,y)=Zbk x y:=by kernel_rfl
theorem qsame_k:Zw Tryz.prog Zyi.1 Zyi.2:=ZD (C:=⟨Tryz.prog,[(32,0),(34,2),(36,3)],[Zag],[],[],[],[]⟩) ⟨cmp_k,trivial⟩ trivial trivial trivial (inl:=[]) trivial (ann:=.two .no (.two (.cut ⟨⟨[],[],[]⟩,[(.norm,⟨[],[],[.s 4 (.dat .bool)]⟩)]⟩ .no) .no)) Tryz.func11 (fun _ _=>by kernel_rfl) rfl fun v vals x z ha hz=>(qsame_i x.1 x.2).trans (ZJq hz)
end Go.Eng
set_option maxRecDepth 100000
set_option maxHeartbeats 4000000
namespace Go.Eng
open Go.Proofs Go.RowKit
noncomputable def ZAi:FuncId×Con:=(12,⟨[.slice (.slice (.leaf 3)),.slice (.leaf 3),.slice (.leaf 3)],[.slice (.leaf 3),.int .i64],fun p=>ZGg p.1 p.2.1 p.2.2⟩)
theorem Zjq (m : List (List Rat)) (x : List Rat) (b : List Rat) : Zy ⟨Tryz.prog, [(32, 0), (34, 2), (36, 3)], [Z8b, ZZa, ZWc, Zjc], [], [], [], [((36, "Sub"), 47)]⟩ [(33, Tryz.f33, .two .no (.two .no (.two (.two .no (.two (.cut ⟨⟨[1, 8, 9], [], [.s 5 (.own 36 (.leaf 3)), .s 10 (.dat (.int .i64))]⟩, [(.exit 0, ⟨[], [], [.s 5 (.own 36 (.leaf 3))]⟩)]⟩ .no) .no)) .no)))] Tryz.f12 (.two .no (.two (.two (.cut ⟨⟨[], [], []⟩, [(.norm, ⟨[0, 1, 2], [], [.s 26 (.dat .bool)]⟩)]⟩ .no) .no) (.two .no (.two (.two .no (.two (.cut ⟨⟨[2, 8, 31], [], [.s 32 (.dat (.int .i64)), .l (.sl 8) (.own 36 (.leaf 3))]⟩, [(.exit 0, ⟨[8], [], [.l (.sl 8) (.own 36 (.leaf 3))]⟩)]⟩ .no) .no)) .no)))) [.slice (.slice (.leaf 3)), .slice (.leaf 3), .slice (.leaf 3)] [.slice (.leaf 3), .int .i64] (m, x, b) = ZGg m x b := by kernel_rfl
theorem Zst : Zw Tryz.prog ZAi.1 ZAi.2 := ZD (C := ⟨Tryz.prog, [(32, 0), (34, 2), (36, 3)], [Z8b, ZZa, ZWc, Zjc], [], [], [], [((36, "Sub"), 47)]⟩) ⟨Zwg, Z2d, ZLj, ZKh, trivial⟩ trivial trivial ⟨ZZo, trivial⟩ (inl := [(33, Tryz.f33, .two .no (.two .no (.two (.two .no (.two (.cut ⟨⟨[1, 8, 9], [], [.s 5 (.own 36 (.leaf 3)), .s 10 (.dat (.int .i64))]⟩, [(.exit 0, ⟨[], [], [.s 5 (.own 36 (.leaf 3))]⟩)]⟩ .no) .no)) .no)))]) ⟨⟨Tryz.func33, fun _ _ => by kernel_rfl⟩, trivial⟩ (ann := (.two .no (.two (.two (.cut ⟨⟨[], [], []⟩, [(.norm, ⟨[0, 1, 2], [], [.s 26 (.dat .bool)]⟩)]⟩ .no) .no) (.two .no (.two (.two .no (.two (.cut ⟨⟨[2, 8, 31], [], [.s 32 (.dat (.int .i64)), .l (.sl 8) (.own 36 (.leaf 3))]⟩, [(.exit 0, ⟨[8], [], [.l (.sl 8) (.own 36 (.leaf 3))]⟩)]⟩ .no) .no)) .no))))) Tryz.func12 (fun _ _ => by kernel_rfl) rfl fun v vals x z ha hz => (Zjq x.1 x.2.1 x.2.2).trans hz
end Go.Eng
set_option maxRecDepth 100000
set_option maxHeartbeats 4000000
namespace Go.Eng
open Go.Proofs Go.RowKit
theorem ZRp (l:List (Int×Int×Int×Int×Int)) (cars:Int×Int×Int) (drv:Int×Int×Int) (plc:Int×Int×Int×Int) (a:Int) (b:Int):Zy ⟨Tryz.prog,[(32,0),(34,2),(36,3)],[Zti,Z9b,Zse,Zgi,Zuj,Zzf,Zyi,ZAi,ZXc],[200054,200059,200065],[],[],[]⟩ [(4,Tryz.f4,.two .no (.two .no (.two (.two .no (.two (.cut ⟨⟨[6,7],[],[.s 3 (.own 38 (.pair (.int .i64) (.pair (.int .i64) (.pair (.int .i64) (.pair (.int .i64) (.leaf 3)))))),.s 8 (.dat (.int .i64))]⟩,[(.exit 0,⟨[],[],[.s 3 (.own 38 (.pair (.int .i64) (.pair (.int .i64) (.pair (.int .i64) (.pair (.int .i64) (.leaf 3))))))]⟩)]⟩ (.two (.two .no (.two .no (.two (.two (.two .no (.two .no (.cut ⟨⟨[],[],[]⟩,[(.norm,⟨[6,7,8],[],[.s 3 (.own 38 (.pair (.int .i64) (.pair (.int .i64) (.pair (.int .i64) (.pair (.int .i64) (.leaf 3))))))]⟩)]⟩ .no))) .no) .no))) .no)) .no)) .no)))] Tryz.f3 (.two .no (.two .no (.two .no (.two .no (.two (.two .no (.two (.cut ⟨⟨[4,5,7,8,9,13,14,15,41,42],[],[.s 43 (.dat (.int .i64)),.l (.sl 15) (.own 38 (.pair (.int .i64) (.pair (.int .i64) (.pair (.int .i64) (.pair (.int .i64) (.leaf 3))))))]⟩,[(.exit 0,⟨[4,5,13,14,15],[],[.l (.sl 15) (.own 38 (.pair (.int .i64) (.pair (.int .i64) (.pair (.int .i64) (.pair (.int .i64) (.leaf 3))))))]⟩)]⟩ (.two (.two .no (.two .no (.two (.two (.two .no (.cut ⟨⟨[],[],[]⟩,[(.norm,⟨[4,5,7,8,9,13,14,15,41,42,43],[],[.l (.sl 15) (.own 38 (.pair (.int .i64) (.pair (.int .i64) (.pair (.int .i64) (.pair (.int .i64) (.leaf 3))))))]⟩)]⟩ .no)) .no) .no))) .no)) .no)) (.two .no (.two .no (.two .no (.two .no (.two .no (.two (.two (.cut ⟨⟨[],[],[]⟩,[(.norm,⟨[18,19,20,21,23,24,25,27],[],[.s 127 (.dat .bool)]⟩)]⟩ .no) .no) (.two (.two .no (.two (.two (.cut ⟨⟨[],[],[]⟩,[(.norm,⟨[],[],[.s 12 (.dat .bool)]⟩)]⟩ .no) .no) .no)) (.two .no (.two .no (.two (.two .no (.two (.cut ⟨⟨[18,19,21,22,24,147,148],[],[.s 149 (.dat (.int .i64))]⟩,[(.exit 2,⟨[18,19,21,24],[],[]⟩),(.ret,⟨[],[],[.s 0 (.dat .bool)]⟩)]⟩ (.two (.two .no (.two .no (.two (.two (.two .no (.two (.cut ⟨⟨[],[],[]⟩,[(.norm,⟨[18,19,21,22,24,147,148,149],[],[.s 159 (.dat .bool)]⟩)]⟩ .no) .no)) .no) .no))) .no)) .no)) (.two (.cut ⟨⟨[],[],[]⟩,[(.norm,⟨[],[],[.s 12 (.dat .bool)]⟩)]⟩ .no) .no)))))))))))))))) [.slice (.pair (.int .u8) (.pair (.int .u8) (.pair (.int .u8) (.pair (.int .u8) (.int .u8))))),.pair (.int .i8) (.pair (.int .i8) (.int .i8)),.pair (.int .i8) (.pair (.int .i8) (.int .i8)),.pair (.int .i8) (.pair (.int .i8) (.pair (.int .i8) (.int .i8))),.int .u8,.int .u8] [.bool] (l,cars,drv,plc,a,b)=ZWh l cars drv plc a b:=by kernel_rfl
theorem ZZq {w0:World} {v0:Zb} (hv:VIn v0 w0) {c0:List Value} {l:(List (Int×Int×Int×Int×Int))} (p0:Rep.rel (Zz (Zx (Zc .u8) (Zx (Zc .u8) (Zx (Zc .u8) (Zx (Zc .u8) (Zc .u8)))))) v0 c0 l) {c1:List Value} {cars:(Int×Int×Int)} (p1:Rep.rel (Zx (Zc .i8) (Zx (Zc .i8) (Zc .i8))) v0 c1 cars) {c2:List Value} {drv:(Int×Int×Int)} (p2:Rep.rel (Zx (Zc .i8) (Zx (Zc .i8) (Zc .i8))) v0 c2 drv) {c3:List Value} {plc:(Int×Int×Int×Int)} (p3:Rep.rel (Zx (Zc .i8) (Zx (Zc .i8) (Zx (Zc .i8) (Zc .i8)))) v0 c3 plc) {c4:List Value} {a:Int} (p4:Rep.rel (Zc .u8) v0 c4 a) {c5:List Value} {b:Int} (p5:Rep.rel (Zc .u8) v0 c5 b) {z:Bool} (hm:ZWh l cars drv plc a b=some z):Ret Tryz.prog 3 #[(Zz (Zx (Zc .u8) (Zx (Zc .u8) (Zx (Zc .u8) (Zx (Zc .u8) (Zc .u8)))))).val c0,(Zx (Zc .i8) (Zx (Zc .i8) (Zc .i8))).val c1,(Zx (Zc .i8) (Zx (Zc .i8) (Zc .i8))).val c2,(Zx (Zc .i8) (Zx (Zc .i8) (Zx (Zc .i8) (Zc .i8)))).val c3,(Zc .u8).val c4,(Zc .u8).val c5] w0 v0 (fun y v'=>∃ r0,y=Zzc.val r0∧Zzc.rel v' r0 z):=(ZVk (C:=⟨Tryz.prog,[(32,0),(34,2),(36,3)],[Zti,Z9b,Zse,Zgi,Zuj,Zzf,Zyi,ZAi,ZXc],[200054,200059,200065],[],[],[]⟩) (CfOK.of ⟨Zlq,Zuh,ZRk,ZPt,Zps,Zcm,qsame_k,Zst,Zmi,trivial⟩ trivial trivial trivial) (inl:=[(4,Tryz.f4,.two .no (.two .no (.two (.two .no (.two (.cut ⟨⟨[6,7],[],[.s 3 (.own 38 (.pair (.int .i64) (.pair (.int .i64) (.pair (.int .i64) (.pair (.int .i64) (.leaf 3)))))),.s 8 (.dat (.int .i64))]⟩,[(.exit 0,⟨[],[],[.s 3 (.own 38 (.pair (.int .i64) (.pair (.int .i64) (.pair (.int .i64) (.pair (.int .i64) (.leaf 3))))))]⟩)]⟩ (.two (.two .no (.two .no (.two (.two (.two .no (.two .no (.cut ⟨⟨[],[],[]⟩,[(.norm,⟨[6,7,8],[],[.s 3 (.own 38 (.pair (.int .i64) (.pair (.int .i64) (.pair (.int .i64) (.pair (.int .i64) (.leaf 3))))))]⟩)]⟩ .no))) .no) .no))) .no)) .no)) .no)))]) (Z3d.of ⟨⟨Tryz.func4,fun _ _=>by kernel_rfl⟩,trivial⟩) (ann:=(.two .no (.two .no (.two .no (.two .no (.two (.two .no (.two (.cut ⟨⟨[4,5,7,8,9,13,14,15,41,42],[],[.s 43 (.dat (.int .i64)),.l (.sl 15) (.own 38 (.pair (.int .i64) (.pair (.int .i64) (.pair (.int .i64) (.pair (.int .i64) (.leaf 3))))))]⟩,[(.exit 0,⟨[4,5,13,14,15],[],[.l (.sl 15) (.own 38 (.pair (.int .i64) (.pair (.int .i64) (.pair (.int .i64) (.pair (.int .i64) (.leaf 3))))))]⟩)]⟩ (.two (.two .no (.two .no (.two (.two (.two .no (.cut ⟨⟨[],[],[]⟩,[(.norm,⟨[4,5,7,8,9,13,14,15,41,42,43],[],[.l (.sl 15) (.own 38 (.pair (.int .i64) (.pair (.int .i64) (.pair (.int .i64) (.pair (.int .i64) (.leaf 3))))))]⟩)]⟩ .no)) .no) .no))) .no)) .no)) (.two .no (.two .no (.two .no (.two .no (.two .no (.two (.two (.cut ⟨⟨[],[],[]⟩,[(.norm,⟨[18,19,20,21,23,24,25,27],[],[.s 127 (.dat .bool)]⟩)]⟩ .no) .no) (.two (.two .no (.two (.two (.cut ⟨⟨[],[],[]⟩,[(.norm,⟨[],[],[.s 12 (.dat .bool)]⟩)]⟩ .no) .no) .no)) (.two .no (.two .no (.two (.two .no (.two (.cut ⟨⟨[18,19,21,22,24,147,148],[],[.s 149 (.dat (.int .i64))]⟩,[(.exit 2,⟨[18,19,21,24],[],[]⟩),(.ret,⟨[],[],[.s 0 (.dat .bool)]⟩)]⟩ (.two (.two .no (.two .no (.two (.two (.two .no (.two (.cut ⟨⟨[],[],[]⟩,[(.norm,⟨[18,19,21,22,24,147,148,149],[],[.s 159 (.dat .bool)]⟩)]⟩ .no) .no)) .no) .no))) .no)) .no)) (.two (.cut ⟨⟨[],[],[]⟩,[(.norm,⟨[],[],[.s 12 (.dat .bool)]⟩)]⟩ .no) .no))))))))))))))))) (ats:=[.slice (.pair (.int .u8) (.pair (.int .u8) (.pair (.int .u8) (.pair (.int .u8) (.int .u8))))),.pair (.int .i8) (.pair (.int .i8) (.int .i8)),.pair (.int .i8) (.pair (.int .i8) (.int .i8)),.pair (.int .i8) (.pair (.int .i8) (.pair (.int .i8) (.int .i8))),.int .u8,.int .u8]) (rts:=[.bool]) (x:=(l,cars,drv,plc,a,b)) (vals:=[(Zz (Zx (Zc .u8) (Zx (Zc .u8) (Zx (Zc .u8) (Zx (Zc .u8) (Zc .u8)))))).val c0,(Zx (Zc .i8) (Zx (Zc .i8) (Zc .i8))).val c1,(Zx (Zc .i8) (Zx (Zc .i8) (Zc .i8))).val c2,(Zx (Zc .i8) (Zx (Zc .i8) (Zx (Zc .i8) (Zc .i8)))).val c3,(Zc .u8).val c4,(Zc .u8).val c5]) Tryz.func3 rfl ((ZRp l cars drv plc a b).trans hm) hv ⟨c0,_,rfl,p0,c1,_,rfl,p1,c2,_,rfl,p2,c3,_,rfl,p3,c4,_,rfl,p4,c5,rfl,p5⟩).mono fun y v' _ h=>h
end Go.Eng
