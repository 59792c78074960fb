/- Lemmas towards the statement: the engine of the walks, the functions' models, laws and walks, part 7. Conditions: as each states. -/
import Derived.Test.YtnmoidpfdhalbaaGreatProg
import Derived.Test.YtnmoidpfdhalbaaGreatAlF
set_option linter.all false
set_option maxRecDepth 100000
set_option maxRecDepth 100000
set_option maxHeartbeats 4000000
namespace Go.Eng
open Go.Proofs Go.RowKit
noncomputable def Z4i:FuncId×Con:=(90,⟨[.leaf 4],[.leaf 4],fun p=>ZZh p⟩)
theorem rneg_i (x:Rat):Zm ⟨Tryz.prog,[(39,1),(41,4)],[Z3b,ZSc],[],[],[],[]⟩ [] Tryz.f90 .no [.leaf 4] [.leaf 4] (x)=ZCj x:=by kernel_rfl
theorem rneg_k:Zk Tryz.prog Z4i.1 Z4i.2:=Zo (C:=⟨Tryz.prog,[(39,1),(41,4)],[Z3b,ZSc],[],[],[],[]⟩) ⟨Zig,Z3h,trivial⟩ trivial trivial trivial (inl:=[]) trivial (ann:=.no) Tryz.func90 (fun _ _=>by kernel_rfl) rfl fun v vals x z ha hz=>(rneg_i x).trans (ZEs hz)
end Go.Eng
set_option maxRecDepth 100000
set_option maxHeartbeats 4000000
namespace Go.Eng
open Go.Proofs Go.RowKit
noncomputable def ZMi:FuncId×Con:=(43,⟨[.leaf 4,.leaf 4],[.leaf 4],fun p=>Zwe p.1 p.2⟩)
theorem rsub_i (x:Rat) (y:Rat):Zm ⟨Tryz.prog,[(39,1),(41,4)],[Zgg,Z4i],[],[],[],[]⟩ [] Tryz.f43 .no [.leaf 4,.leaf 4] [.leaf 4] (x,y)=ZNn x y:=by kernel_rfl
theorem rsub_k:Zk Tryz.prog ZMi.1 ZMi.2:=Zo (C:=⟨Tryz.prog,[(39,1),(41,4)],[Zgg,Z4i],[],[],[],[]⟩) ⟨Z1q,rneg_k,trivial⟩ trivial trivial trivial (inl:=[]) trivial (ann:=.no) Tryz.func43 (fun _ _=>by kernel_rfl) rfl fun v vals x z ha hz=>(rsub_i x.1 x.2).trans (ZDw hz)
end Go.Eng
set_option maxRecDepth 100000
set_option maxHeartbeats 4000000
namespace Go.Eng
open Go.Proofs Go.RowKit
noncomputable def Zif:FuncId×Con:=(44,⟨[.leaf 4],[.bool],fun p=>Zod p⟩)
theorem rzero_i (x:Rat):Zm ⟨Tryz.prog,[(39,1),(41,4)],[],[],[],[],[]⟩ [] Tryz.f44 .no [.leaf 4] [.bool] (x)=ZJm x:=by kernel_rfl
theorem Zrn:Zk Tryz.prog Zif.1 Zif.2:=Zo (C:=⟨Tryz.prog,[(39,1),(41,4)],[],[],[],[],[]⟩) trivial trivial trivial trivial (inl:=[]) trivial (ann:=.no) Tryz.func44 (fun _ _=>by kernel_rfl) rfl fun v vals x z ha hz=>(rzero_i x).trans (ZOw hz)
end Go.Eng
set_option maxRecDepth 100000
set_option maxHeartbeats 4000000
namespace Go.Eng
open Go.Proofs Go.RowKit
noncomputable def Z5i:FuncId×Con:=(91,⟨[.leaf 4,.leaf 4],[.leaf 4,.int .i64],fun p=>Zli p.1 p.2⟩)
theorem rdiv_i (x:Rat) (y:Rat):Zm ⟨Tryz.prog,[(39,1),(41,4)],[ZTc,Zif,Z3b,ZSc,Zvd],[],[],[],[]⟩ [] Tryz.f91 .no [.leaf 4,.leaf 4] [.leaf 4,.int .i64] (x,y)=Zwm x y:=by kernel_rfl
theorem rdiv_k:Zk Tryz.prog Z5i.1 Z5i.2:=Zo (C:=⟨Tryz.prog,[(39,1),(41,4)],[ZTc,Zif,Z3b,ZSc,Zvd],[],[],[],[]⟩) ⟨ZJh,Zrn,Zig,Z3h,Z0j,trivial⟩ trivial trivial trivial (inl:=[]) trivial (ann:=.no) Tryz.func91 (fun _ _=>by kernel_rfl) rfl fun v vals x z ha hz=>(rdiv_i x.1 x.2).trans (Zwx hz)
end Go.Eng
set_option maxRecDepth 100000
set_option maxHeartbeats 4000000
namespace Go.Eng
open Go.Proofs Go.RowKit
noncomputable def ZOj:FuncId×Con:=(45,⟨[.leaf 4,.leaf 4],[.leaf 4],fun p=>ZWd p.1 p.2⟩)
theorem rby_i (x:Rat) (y:Rat):Zm ⟨Tryz.prog,[(39,1),(41,4)],[Z5i],[],[],[],[]⟩ [] Tryz.f45 .no [.leaf 4,.leaf 4] [.leaf 4] (x,y)=rby_m x y:=by kernel_rfl
theorem rby_k:Zk Tryz.prog ZOj.1 ZOj.2:=Zo (C:=⟨Tryz.prog,[(39,1),(41,4)],[Z5i],[],[],[],[]⟩) ⟨rdiv_k,trivial⟩ trivial trivial trivial (inl:=[]) trivial (ann:=.no) Tryz.func45 (fun _ _=>by kernel_rfl) rfl fun v vals x z ha hz=>(rby_i x.1 x.2).trans (rbyF_eq hz)
end Go.Eng
set_option maxRecDepth 100000
set_option maxHeartbeats 4000000
namespace Go.Eng
open Go.Proofs Go.RowKit
noncomputable def Ztl:FuncId×Con:=(10,⟨[.slice (.leaf 4),.slice (.leaf 4)],[.leaf 4,.leaf 4,.int .i64],fun p=>ZLf p.1 p.2⟩)
theorem Z1w (x:List Rat) (y:List Rat):Zm ⟨Tryz.prog,[(31,0),(33,2),(35,3),(39,1),(41,4)],[ZOi,ZTc,Zgg,ZLk,ZMi,Zif,ZOj],[],[],[],[]⟩ [] Tryz.f10 (.two .no (.two (.two (.cut ⟨⟨[],[],[]⟩,[(.norm,⟨[0,1,4,5],[],[.s 29 (.dat .bool)]⟩)]⟩ .no) .no) (.two .no (.two .no (.two (.two .no (.two (.cut ⟨⟨[0,1,4,5,7,8,9,10,11],[],[.s 12 (.dat (.int .i64)),.l (.sl 8) (.box 41 (.dat (.leaf 4))),.l (.sl 9) (.box 41 (.dat (.leaf 4))),.l (.sl 10) (.box 41 (.dat (.leaf 4))),.l (.sl 11) (.box 41 (.dat (.leaf 4)))]⟩,[(.exit 0,⟨[4,5,7,8,9,10,11],[],[.l (.sl 8) (.box 41 (.dat (.leaf 4))),.l (.sl 9) (.box 41 (.dat (.leaf 4))),.l (.sl 10) (.box 41 (.dat (.leaf 4))),.l (.sl 11) (.box 41 (.dat (.leaf 4)))]⟩)]⟩ .no) .no)) .no))))) [.slice (.leaf 4),.slice (.leaf 4)] [.leaf 4,.leaf 4,.int .i64] (x,y)=ZLf x y:=by kernel_rfl
theorem ZHs:Zk Tryz.prog Ztl.1 Ztl.2:=Zo (C:=⟨Tryz.prog,[(31,0),(33,2),(35,3),(39,1),(41,4)],[ZOi,ZTc,Zgg,ZLk,ZMi,Zif,ZOj],[],[],[],[]⟩) ⟨zero8_k,ZJh,Z1q,rmul_k,rsub_k,Zrn,rby_k,trivial⟩ trivial trivial trivial (inl:=[]) trivial (ann:=(.two .no (.two (.two (.cut ⟨⟨[],[],[]⟩,[(.norm,⟨[0,1,4,5],[],[.s 29 (.dat .bool)]⟩)]⟩ .no) .no) (.two .no (.two .no (.two (.two .no (.two (.cut ⟨⟨[0,1,4,5,7,8,9,10,11],[],[.s 12 (.dat (.int .i64)),.l (.sl 8) (.box 41 (.dat (.leaf 4))),.l (.sl 9) (.box 41 (.dat (.leaf 4))),.l (.sl 10) (.box 41 (.dat (.leaf 4))),.l (.sl 11) (.box 41 (.dat (.leaf 4)))]⟩,[(.exit 0,⟨[4,5,7,8,9,10,11],[],[.l (.sl 8) (.box 41 (.dat (.leaf 4))),.l (.sl 9) (.box 41 (.dat (.leaf 4))),.l (.sl 10) (.box 41 (.dat (.leaf 4))),.l (.sl 11) (.box 41 (.dat (.leaf 4)))]⟩)]⟩ .no) .no)) .no)))))) Tryz.func10 (fun _ _=>by kernel_rfl) rfl fun v vals x z ha hz=>(Z1w x.1 x.2).trans hz
end Go.Eng
set_option maxRecDepth 100000
set_option maxHeartbeats 4000000
namespace Go.Eng
open Go.Proofs Go.RowKit
noncomputable def Z9j:FuncId×Con:=(92,⟨[.leaf 1],[.str],fun p=>Zkg p⟩)
theorem Zit (a:Nat):Zm ⟨Tryz.prog,[(39,1),(41,4)],[ZEg],[],[],[],[]⟩ [] Tryz.f92 (.two .no (.two .no (.two (.cut ⟨⟨[],[],[]⟩,[(.norm,⟨[],[],[.s 3 (.dat .str)]⟩)]⟩ (.two (.cut ⟨⟨[],[],[.s 0 (.dat (.leaf 1)),.s 3 (.dat .str)]⟩,[(.exit 0,⟨[],[],[.s 3 (.dat .str)]⟩)]⟩ (.two (.two .no (.two (.two .no (.two (.two .no (.cut ⟨⟨[],[],[]⟩,[(.norm,⟨[4],[],[.s 3 (.dat .str)]⟩)]⟩ (.two (.cut ⟨⟨[4],[],[.s 3 (.dat .str),.s 5 (.dat (.int .u32)),.s 6 (.dat (.int .i64))]⟩,[(.exit 2,⟨[4],[],[.s 3 (.dat .str)]⟩)]⟩ (.two (.two (.two (.cut ⟨⟨[],[],[]⟩,[(.norm,⟨[3,4,5,6],[],[.s 25 (.dat .bool)]⟩)]⟩ .no) .no) .no) .no)) .no))) .no)) .no)) .no)) .no)) .no))) [.leaf 1] [.str] (a)=ZZk a:=by kernel_rfl
theorem Zws:Zk Tryz.prog Z9j.1 Z9j.2:=Zo (C:=⟨Tryz.prog,[(39,1),(41,4)],[ZEg],[],[],[],[]⟩) ⟨ZEq,trivial⟩ trivial trivial trivial (inl:=[]) trivial (ann:=.two .no (.two .no (.two (.cut ⟨⟨[],[],[]⟩,[(.norm,⟨[],[],[.s 3 (.dat .str)]⟩)]⟩ (.two (.cut ⟨⟨[],[],[.s 0 (.dat (.leaf 1)),.s 3 (.dat .str)]⟩,[(.exit 0,⟨[],[],[.s 3 (.dat .str)]⟩)]⟩ (.two (.two .no (.two (.two .no (.two (.two .no (.cut ⟨⟨[],[],[]⟩,[(.norm,⟨[4],[],[.s 3 (.dat .str)]⟩)]⟩ (.two (.cut ⟨⟨[4],[],[.s 3 (.dat .str),.s 5 (.dat (.int .u32)),.s 6 (.dat (.int .i64))]⟩,[(.exit 2,⟨[4],[],[.s 3 (.dat .str)]⟩)]⟩ (.two (.two (.two (.cut ⟨⟨[],[],[]⟩,[(.norm,⟨[3,4,5,6],[],[.s 25 (.dat .bool)]⟩)]⟩ .no) .no) .no) .no)) .no))) .no)) .no)) .no)) .no)) .no))) Tryz.func92 (fun _ _=>by kernel_rfl) rfl fun v vals x z ha hz=>(Zit x).trans (ZCv hz)
end Go.Eng
set_option maxRecDepth 100000
set_option maxHeartbeats 4000000
namespace Go.Eng
open Go.Proofs Go.RowKit
noncomputable def Zul:FuncId×Con:=(46,⟨[.leaf 4],[.str],fun p=>ZHi p⟩)
theorem rtext_i (x:Rat):Zm ⟨Tryz.prog,[(39,1),(41,4)],[Zif,ZSc,ZWe,Z9j],[],[],[],[]⟩ [] Tryz.f46 (.two .no (.two .no (.two (.two (.cut ⟨⟨[],[],[]⟩,[(.norm,⟨[1,3],[],[.s 13 (.dat .bool)]⟩)]⟩ .no) (.cut ⟨⟨[],[],[]⟩,[(.norm,⟨[1],[],[.s 3 (.dat .str)]⟩)]⟩ .no)) (.two (.two .no (.cut ⟨⟨[],[],[]⟩,[(.norm,⟨[],[],[.s 3 (.dat .str)]⟩)]⟩ .no)) .no)))) [.leaf 4] [.str] (x)=ZEm x:=by kernel_rfl
theorem rtext_k:Zk Tryz.prog Zul.1 Zul.2:=Zo (C:=⟨Tryz.prog,[(39,1),(41,4)],[Zif,ZSc,ZWe,Z9j],[],[],[],[]⟩) ⟨Zrn,Z3h,ZBn,Zws,trivial⟩ trivial trivial trivial (inl:=[]) trivial (ann:=.two .no (.two .no (.two (.two (.cut ⟨⟨[],[],[]⟩,[(.norm,⟨[1,3],[],[.s 13 (.dat .bool)]⟩)]⟩ .no) (.cut ⟨⟨[],[],[]⟩,[(.norm,⟨[1],[],[.s 3 (.dat .str)]⟩)]⟩ .no)) (.two (.two .no (.cut ⟨⟨[],[],[]⟩,[(.norm,⟨[],[],[.s 3 (.dat .str)]⟩)]⟩ .no)) .no)))) Tryz.func46 (fun _ _=>by kernel_rfl) rfl fun v vals x z ha hz=>(rtext_i x).trans (Z3u hz)
end Go.Eng
set_option maxRecDepth 100000
set_option maxHeartbeats 4000000
namespace Go.Eng
open Go.Proofs Go.RowKit
noncomputable def Zal:FuncId×Con:=(11,⟨[.leaf 3,.leaf 4],[.bool],fun p=>ZTe p.1 p.2⟩)
theorem is1_i (x:Rat) (y:Rat):Zm ⟨Tryz.prog,[(31,0),(33,2),(35,3),(39,1),(41,4)],[Zbh,Zul],[],[],[],[]⟩ [] Tryz.f11 .no [.leaf 3,.leaf 4] [.bool] (x,y)=ZTe x y:=by kernel_rfl
theorem is1_k:Zk Tryz.prog Zal.1 Zal.2:=Zo (C:=⟨Tryz.prog,[(31,0),(33,2),(35,3),(39,1),(41,4)],[Zbh,Zul],[],[],[],[]⟩) ⟨ZMr,rtext_k,trivial⟩ trivial trivial trivial (inl:=[]) trivial (ann:=.no) Tryz.func11 (fun _ _=>by kernel_rfl) rfl fun v vals x z ha hz=>(is1_i x.1 x.2).trans (hz)
end Go.Eng
set_option maxRecDepth 100000
set_option maxHeartbeats 4000000
namespace Go.Eng
open Go.Proofs Go.RowKit
noncomputable def Zvl:FuncId×Con:=(17,⟨[.leaf 3,.leaf 3],[.bool],fun p=>ZIg p.1 p.2⟩)
theorem qsame_i (x:Rat) (y:Rat):Zm ⟨Tryz.prog,[(31,0),(33,2),(35,3)],[Z5f],[],[],[],[]⟩ [] Tryz.f17 (.two .no (.two (.cut ⟨⟨[],[],[]⟩,[(.norm,⟨[],[],[.s 4 (.dat .bool)]⟩)]⟩ .no) .no)) [.leaf 3,.leaf 3] [.bool] (x,y)=Zam x y:=by kernel_rfl
theorem qsame_k:Zk Tryz.prog Zvl.1 Zvl.2:=Zo (C:=⟨Tryz.prog,[(31,0),(33,2),(35,3)],[Z5f],[],[],[],[]⟩) ⟨cmp_k,trivial⟩ trivial trivial trivial (inl:=[]) trivial (ann:=.two .no (.two (.cut ⟨⟨[],[],[]⟩,[(.norm,⟨[],[],[.s 4 (.dat .bool)]⟩)]⟩ .no) .no)) Tryz.func17 (fun _ _=>by kernel_rfl) rfl fun v vals x z ha hz=>(qsame_i x.1 x.2).trans (ZTu hz)
end Go.Eng
set_option maxRecDepth 100000
set_option maxHeartbeats 4000000
namespace Go.Eng
open Go.Proofs Go.RowKit
theorem Z5r (l:List (Int×Int)) (k:List (Int×Int)) (a:Int×Int) (b:Int×Int):Zm ⟨Tryz.prog,[(31,0),(33,2),(35,3),(39,1),(41,4)],[Zgk,Z9f,Zxk,Ztl,Zal,Z6b,Z0b,Z1b,ZKc,ZUe,Zvl],[],[],[],[]⟩ [] Tryz.f3 (.two .no (.two (.two (.cut ⟨⟨[],[],[]⟩,[(.norm,⟨[0,1,6,7],[],[.s 29 (.dat .bool)]⟩)]⟩ .no) .no) (.two .no (.two .no (.two .no (.two .no (.two (.two (.cut ⟨⟨[],[],[]⟩,[(.norm,⟨[6,7,9,11,13,14,15],[],[.s 69 (.dat .bool)]⟩)]⟩ .no) .no) (.two .no (.two .no (.two .no (.two (.two .no (.two (.cut ⟨⟨[6,7,9,11,13,14,19,74],[],[.s 20 (.own 35 (.leaf 3)),.s 75 (.dat (.int .i64)),.l (.sl 19) (.box 35 (.dat (.leaf 3)))]⟩,[(.exit 0,⟨[6,7,9,13,14,19],[],[.s 20 (.own 35 (.leaf 3)),.l (.sl 19) (.box 35 (.dat (.leaf 3)))]⟩)]⟩ .no) .no)) (.two .no (.two (.cut ⟨⟨[],[],[]⟩,[(.norm,⟨[],[],[.s 8 (.dat .bool)]⟩)]⟩ .no) .no))))))))))))) [.slice (.pair (.int .i64) (.int .i64)),.slice (.pair (.int .i64) (.int .i64)),.pair (.int .i64) (.int .i64),.pair (.int .i64) (.int .i64)] [.bool] (l,k,a,b)=Zik l k a b:=by kernel_rfl
theorem ZCu {w0:World} {v0:Zb} (hv:VIn v0 w0) {c0:List Value} {l:(List (Int×Int))} (p0:Rep.rel (Zy (Zxa (Zd .i64) (Zd .i64))) v0 c0 l) {c1:List Value} {k:(List (Int×Int))} (p1:Rep.rel (Zy (Zxa (Zd .i64) (Zd .i64))) v0 c1 k) {c2:List Value} {a:(Int×Int)} (p2:Rep.rel (Zxa (Zd .i64) (Zd .i64)) v0 c2 a) {c3:List Value} {b:(Int×Int)} (p3:Rep.rel (Zxa (Zd .i64) (Zd .i64)) v0 c3 b) {z:Bool} (hm:Zik l k a b=some z):Ret Tryz.prog 3 #[(Zy (Zxa (Zd .i64) (Zd .i64))).val c0,(Zy (Zxa (Zd .i64) (Zd .i64))).val c1,(Zxa (Zd .i64) (Zd .i64)).val c2,(Zxa (Zd .i64) (Zd .i64)).val c3] w0 v0 (fun y v'=>∃ r0,y=Z8c.val r0∧Z8c.rel v' r0 z):=(ZJn (C:=⟨Tryz.prog,[(31,0),(33,2),(35,3),(39,1),(41,4)],[Zgk,Z9f,Zxk,Ztl,Zal,Z6b,Z0b,Z1b,ZKc,ZUe,Zvl],[],[],[],[]⟩) (CfOK.of ⟨Zut,ZGo,Align_k,ZHs,is1_k,Zmh,Zhh,ZLg,Zyh,Z9l,qsame_k,trivial⟩ trivial trivial trivial) (inl:=[]) (ZJe.of trivial) (ann:=(.two .no (.two (.two (.cut ⟨⟨[],[],[]⟩,[(.norm,⟨[0,1,6,7],[],[.s 29 (.dat .bool)]⟩)]⟩ .no) .no) (.two .no (.two .no (.two .no (.two .no (.two (.two (.cut ⟨⟨[],[],[]⟩,[(.norm,⟨[6,7,9,11,13,14,15],[],[.s 69 (.dat .bool)]⟩)]⟩ .no) .no) (.two .no (.two .no (.two .no (.two (.two .no (.two (.cut ⟨⟨[6,7,9,11,13,14,19,74],[],[.s 20 (.own 35 (.leaf 3)),.s 75 (.dat (.int .i64)),.l (.sl 19) (.box 35 (.dat (.leaf 3)))]⟩,[(.exit 0,⟨[6,7,9,13,14,19],[],[.s 20 (.own 35 (.leaf 3)),.l (.sl 19) (.box 35 (.dat (.leaf 3)))]⟩)]⟩ .no) .no)) (.two .no (.two (.cut ⟨⟨[],[],[]⟩,[(.norm,⟨[],[],[.s 8 (.dat .bool)]⟩)]⟩ .no) .no)))))))))))))) (ats:=[.slice (.pair (.int .i64) (.int .i64)),.slice (.pair (.int .i64) (.int .i64)),.pair (.int .i64) (.int .i64),.pair (.int .i64) (.int .i64)]) (rts:=[.bool]) (x:=(l,k,a,b)) (vals:=[(Zy (Zxa (Zd .i64) (Zd .i64))).val c0,(Zy (Zxa (Zd .i64) (Zd .i64))).val c1,(Zxa (Zd .i64) (Zd .i64)).val c2,(Zxa (Zd .i64) (Zd .i64)).val c3]) Tryz.func3 rfl ((Z5r l k a b).trans hm) hv ⟨c0,_,rfl,p0,c1,_,rfl,p1,c2,_,rfl,p2,c3,rfl,p3⟩).mono fun y v' _ h=>h
end Go.Eng
