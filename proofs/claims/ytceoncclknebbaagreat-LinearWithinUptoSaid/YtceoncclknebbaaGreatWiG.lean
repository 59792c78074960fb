/- Lemmas towards the statement: the engine of the walks, the functions' models, laws and walks, part 7. Conditions: as each states. -/
import Derived.Shelf.Strings.Builder1
import Derived.Shelf.Strings.Repeat
import Derived.Test.YtceoncclknebbaaGreatProg
import Derived.Test.YtceoncclknebbaaGreatWiF
set_option linter.all false
set_option maxRecDepth 100000
set_option maxRecDepth 100000
set_option maxHeartbeats 4000000
namespace Go.Eng
open Go.Proofs Go.RowKit
noncomputable def Zih:FuncId×Con:=(25,⟨[.leaf 3],[.bool],fun p=>Z1b p⟩)
theorem Zhi:KQ Zih:=Zh (Zz (C:=cf0 [] [] [] []) .no Tryz.func25 [] (fun v vals x z ha hz=>.trans (by kernel_rfl) (ZIv hz)))
end Go.Eng
set_option maxRecDepth 100000
set_option maxHeartbeats 4000000
namespace Go.Eng
open Go.Proofs Go.RowKit
noncomputable def ZCo:FuncId×Con:=(33,⟨[.pair (.slice (.slice (.leaf 3))) (.pair (.slice (.leaf 3)) (.slice (.leaf 3)))],[.int .i64],fun p=>ZXo p⟩)
theorem ZWq:KQ ZCo:=Zh (Zu (C:=cf0 [] [] [] []) (.n (.f (.f (.j [] [] [.s 27 (.dat .bool)] .no)))) Tryz.func33 [(78,Tryz.f78,.no),(79,Tryz.f79,.no),(113,Tryz.f113,.r [] [] [.s 1000 (.dat (.int .i64))] (.n (.f (.n (.f (.cut ⟨⟨[0,1,7],[],[.s 8 (.dat (.int .i64))]⟩,[(.exit 0,⟨[],[],[]⟩),(.ret,⟨[],[],[.s 1000 (.dat (.int .i64))]⟩)]⟩ .no))))))] (fun _=>by kernel_rfl) tr tr tr ⟨⟨Tryz.func78,fun _ _=>by kernel_rfl⟩,⟨Tryz.func79,fun _ _=>by kernel_rfl⟩,⟨Tryz.func113,fun _ _=>by kernel_rfl⟩,tr⟩)
end Go.Eng
set_option maxRecDepth 100000
set_option maxHeartbeats 4000000
namespace Go.Eng
open Go.Proofs Go.RowKit
noncomputable def Zxq:FuncId×Con:=(202,⟨[.leaf 2],[.int .i64],fun p=>Z8i p⟩)
theorem isign_k:KQ Zxq:=Zh (Zz (C:=cf0 [] [] [] []) .no Tryz.func202 [] (fun v vals x z ha hz=>.trans (by kernel_rfl) (Zbz hz)))
end Go.Eng
set_option maxRecDepth 100000
set_option maxHeartbeats 4000000
namespace Go.Eng
open Go.Proofs Go.RowKit
noncomputable def ZSe:FuncId×Con:=(211,⟨[.leaf 3],[.int .i64],fun p=>Z0a p⟩)
theorem Zug:KQ ZSe:=Zh (Zz (C:=cf0 [Zxq] [] [] []) .no Tryz.func211 [] (fun v vals x z ha hz=>.trans (by kernel_rfl) (ZqB hz)) ⟨isign_k,tr⟩)
end Go.Eng
set_option maxRecDepth 100000
namespace Go.Eng
open Go.Proofs Go.RowKit
theorem Zrk : ∀ y w, (method (Tryz.prog.types.size + Made.depth) 59 y "Add").run Tryz.prog w = .ok (203, y) w := fun _ _ => by kernel_rfl
theorem ZEm : ∀ y w, (method (Tryz.prog.types.size + Made.depth) 59 y "Cmp").run Tryz.prog w = .ok (204, y) w := fun _ _ => by kernel_rfl
theorem ZDo : ∀ y w, (method (Tryz.prog.types.size + Made.depth) 59 y "Div").run Tryz.prog w = .ok (205, y) w := fun _ _ => by kernel_rfl
theorem ZXh : ∀ y w, (method (Tryz.prog.types.size + Made.depth) 59 y "Mul").run Tryz.prog w = .ok (206, y) w := fun _ _ => by kernel_rfl
theorem Z7f : ∀ y w, (method (Tryz.prog.types.size + Made.depth) 59 y "Neg").run Tryz.prog w = .ok (208, y) w := fun _ _ => by kernel_rfl
theorem Zow : ∀ y w, (method (Tryz.prog.types.size + Made.depth) 59 y "Of").run Tryz.prog w = .ok (209, y) w := fun _ _ => by kernel_rfl
theorem Zqy : ∀ y w, (method (Tryz.prog.types.size + Made.depth) 59 y "Same").run Tryz.prog w = .ok (210, y) w := fun _ _ => by kernel_rfl
theorem ZNg : ∀ y w, (method (Tryz.prog.types.size + Made.depth) 59 y "Sign").run Tryz.prog w = .ok (211, y) w := fun _ _ => by kernel_rfl
theorem ZQh : ∀ y w, (method (Tryz.prog.types.size + Made.depth) 59 y "Sub").run Tryz.prog w = .ok (212, y) w := fun _ _ => by kernel_rfl
theorem ZIj : ∀ y w, (method (Tryz.prog.types.size + Made.depth) 59 y "Zero").run Tryz.prog w = .ok (25, y) w := fun _ _ => by kernel_rfl
end Go.Eng
set_option maxRecDepth 100000
set_option maxHeartbeats 4000000
namespace Go.Eng
open Go.Proofs Go.RowKit
noncomputable def Z8h:FuncId×Con:=(49,⟨[.slice (.leaf 3)],[.bool],fun p=>ZTc p⟩)
theorem Zyl : KQ Z8h := Zh (Zu (C := cf0 [ZSe] [] [] [((59, "Sign"), 211)]) .no Tryz.func49 [(91, Tryz.f91, .no), (92, Tryz.f92, .no), (126, Tryz.f126, .r [] [] [.s 1000 (.dat (.int .i64))] (.n (.f (.n (.f (.cut ⟨⟨[0, 1, 7], [], [.s 8 (.dat (.int .i64))]⟩, [(.exit 0, ⟨[], [], []⟩), (.ret, ⟨[], [], [.s 1000 (.dat (.int .i64))]⟩)]⟩ .no))))))] (fun _ => by kernel_rfl) ⟨Zug, tr⟩ tr ⟨ZNg, tr⟩ ⟨⟨Tryz.func91, fun _ _ => by kernel_rfl⟩, ⟨Tryz.func92, fun _ _ => by kernel_rfl⟩, ⟨Tryz.func126, fun _ _ => by kernel_rfl⟩, tr⟩)
end Go.Eng
set_option maxRecDepth 100000
set_option maxHeartbeats 4000000
namespace Go.Eng
open Go.Proofs Go.RowKit
noncomputable def Zkk:FuncId×Con:=(213,⟨[.leaf 0],[.leaf 0],fun p=>ZSc p⟩)
theorem Z1o:KQ Zkk:=Zh (Zz (C:=cf0 [Z9i] [] [] []) .no Tryz.func213 [] (fun v vals x z ha hz=>.trans (by kernel_rfl) (Zey hz)) ⟨ZDn,tr⟩)
end Go.Eng
set_option maxRecDepth 100000
set_option maxHeartbeats 4000000
namespace Go.Eng
open Go.Proofs Go.RowKit
noncomputable def ZLl:FuncId×Con:=(176,⟨[.int .u64,.int .u64,.int .u64],[.int .u64,.int .u64],fun p=>Zpb p.1 p.2.1 p.2.2⟩)
theorem Zqs:ZUd Tryz.prog ZLl.1 ZLl.2:=fun w v vals x z _ ha hz=>by
 obtain ⟨c0,w0,e0,p0,c1,w1,e1,p1,c2,e2,p2⟩:=ha
 subst e0 e1 e2
 obtain ⟨rfl,h0⟩:=p0
 obtain ⟨rfl,h1⟩:=p1
 obtain ⟨rfl,h2⟩:=p2
 have p0:(Zf .u64).rel v [.int .u64 x.1] x.1:=⟨rfl,h0⟩
 have p1:(Zf .u64).rel v [.int .u64 x.2.1] x.2.1:=⟨rfl,h1⟩
 exact .inr ⟨.tuple #[.int .u64 z.1,.int .u64 z.2],fun w=>Zfp (show ZId Tryz.prog 176 add64Entry from ⟨_,Tryz.func176,by kernel_rfl,by kernel_rfl,by kernel_rfl,by kernel_rfl⟩) hz w,_,rfl,_,_,rfl,⟨rfl,ZRn hz⟩,_,rfl,⟨rfl,addW_hi p0.2 p1.2 hz⟩⟩
end Go.Eng
set_option maxRecDepth 100000
set_option maxHeartbeats 4000000
namespace Go.Eng
open Go.Proofs Go.RowKit
noncomputable def Z2g:FuncId×Con:=(216,⟨[.leaf 0,.leaf 0],[.leaf 0],fun p=>Zuc p.1 p.2⟩)
theorem ZNi:KQ Z2g:=Zh (Zz (C:=cf2 [(55,0)] [Z5o,ZNe,Zvn,ZLl]) (.n (.n (.n (.n (.f (.n (.j [] [] [.s 5 (.own 153 (.int .u64))] (.f (.l [1,26,27] [] [.s 5 (.own 153 (.int .u64)),.s 28 (.dat (.int .i64))] 0 [] [] [.s 5 (.own 153 (.int .u64))] (.f (.n (.n (.f (.f (.n (.n (.f (.n (.j [1,6,26,27,28] [] [.s 5 (.own 153 (.int .u64)),.s 8 (.dat (.int .u64))] (.f (.l [1,6,7,26,27,28,33,34] [] [.s 5 (.own 153 (.int .u64)),.s 8 (.dat (.int .u64)),.s 35 (.dat (.int .i64))] 2 [1,6,26,27,28] [] [.s 5 (.own 153 (.int .u64)),.s 8 (.dat (.int .u64))] .no))))))))))))))))))))) Tryz.func216 [] (fun v vals x z ha hz=>.trans (by kernel_rfl) (ZXv hz)) ⟨Zar,ZOg,mul64_k,Zqs,tr⟩)
end Go.Eng
set_option maxRecDepth 100000
set_option maxHeartbeats 4000000
namespace Go.Eng
open Go.Proofs Go.RowKit
noncomputable def Z6l:FuncId×Con:=(214,⟨[.leaf 2,.leaf 0],[.leaf 2],fun p=>Zkf p.1 p.2⟩)
theorem Z1s:KQ Z6l:=Zh (Zz (C:=cf0 [ZLf,Z2g] [] [] []) .no Tryz.func214 [] (fun v vals x z ha hz=>.trans (by kernel_rfl) (ZEx hz)) ⟨Zch,ZNi,tr⟩)
end Go.Eng
set_option maxRecDepth 100000
set_option maxHeartbeats 4000000
namespace Go.Eng
open Go.Proofs Go.RowKit
noncomputable def ZQt:FuncId×Con:=(219,⟨[.leaf 0,.leaf 0],[.leaf 0],fun p=>Zpi p.1 p.2⟩)
theorem plus_k:KQ ZQt:=Zh (Zz (C:=cf2 [(55,0)] [ZLl]) (.n (.two (.n (.j [] [] [.s 0 (.dat (.leaf 0)),.s 1 (.dat (.leaf 0))] .no)) (.n (.n (.two (.n (.j [] [] [.s 5 (.own 153 (.int .u64)),.s 6 (.dat (.int .u64))] (.f (.l [1,23,24] [] [.s 5 (.own 153 (.int .u64)),.s 6 (.dat (.int .u64)),.s 25 (.dat (.int .i64))] 0 [] [] [.s 5 (.own 153 (.int .u64)),.s 6 (.dat (.int .u64))] (.f (.n (.n (.f (.f (.n (.n (.f (.n (.j [1,5,6,7,8,23,24,25] [] [.s 9 (.dat (.int .u64))] .no)))))))))))))) (.f (.n (.j [] [] [.s 5 (.own 153 (.int .u64))] .no)))))))) Tryz.func219 [] (fun v vals x z ha hz=>.trans (by kernel_rfl) (Zqw hz)) ⟨Zqs,tr⟩)
end Go.Eng
set_option maxRecDepth 100000
set_option maxHeartbeats 4000000
namespace Go.Eng
open Go.Proofs Go.RowKit
noncomputable def Zgm:FuncId×Con:=(180,⟨[.int .u64,.int .u64,.int .u64],[.int .u64,.int .u64],fun p=>Z8c p.1 p.2.1 p.2.2⟩)
theorem sub64_k:ZUd Tryz.prog Zgm.1 Zgm.2:=fun w v vals x z _ ha hz=>by
 obtain ⟨c0,w0,e0,p0,c1,w1,e1,p1,c2,e2,p2⟩:=ha
 subst e0 e1 e2
 obtain ⟨rfl,h0⟩:=p0
 obtain ⟨rfl,h1⟩:=p1
 obtain ⟨rfl,h2⟩:=p2
 have p0:(Zf .u64).rel v [.int .u64 x.1] x.1:=⟨rfl,h0⟩
 have p1:(Zf .u64).rel v [.int .u64 x.2.1] x.2.1:=⟨rfl,h1⟩
 exact .inr ⟨.tuple #[.int .u64 z.1,.int .u64 z.2],fun w=>Zsr (show ZId Tryz.prog 180 Zpl from ⟨_,Tryz.func180,by kernel_rfl,by kernel_rfl,by kernel_rfl,by kernel_rfl⟩) p0.2 p1.2 hz w,_,rfl,_,_,rfl,⟨rfl,Z2p hz⟩,_,rfl,⟨rfl,ZPt hz⟩⟩
end Go.Eng
set_option maxRecDepth 100000
set_option maxHeartbeats 4000000
namespace Go.Eng
open Go.Proofs Go.RowKit
noncomputable def Zdr:FuncId×Con:=(220,⟨[.leaf 0,.leaf 0],[.leaf 0],fun p=>Z6g p.1 p.2⟩)
theorem minus_k:KQ Zdr:=Zh (Zz (C:=cf2 [(55,0)] [ZNe,Zgm]) (.n (.n (.n (.f (.n (.j [] [] [.s 5 (.own 153 (.int .u64))] (.f (.l [1,13,14] [] [.s 5 (.own 153 (.int .u64)),.s 6 (.dat (.int .u64)),.s 15 (.dat (.int .i64))] 0 [] [] [.s 5 (.own 153 (.int .u64))] (.f (.n (.n (.f (.f (.n (.n (.f (.n (.j [1,5,6,7,8,13,14,15] [] [.s 9 (.dat (.int .u64))] .no)))))))))))))))))) Tryz.func220 [] (fun v vals x z ha hz=>.trans (by kernel_rfl) (Z5x hz)) ⟨ZOg,sub64_k,tr⟩)
end Go.Eng
set_option maxRecDepth 100000
set_option maxHeartbeats 4000000
namespace Go.Eng
open Go.Proofs Go.RowKit
noncomputable def Zgt:FuncId×Con:=(215,⟨[.leaf 2,.leaf 2],[.leaf 2],fun p=>ZLi p.1 p.2⟩)
theorem iplus_k:KQ Zgt:=Zh (Zz (C:=cf0 [ZLf,ZTj,ZQt,Zdr] [] [] []) .no Tryz.func215 [] (fun v vals x z ha hz=>.trans (by kernel_rfl) (ZoB hz)) ⟨Zch,cmp_k,plus_k,minus_k,tr⟩)
end Go.Eng
set_option maxRecDepth 100000
set_option maxHeartbeats 4000000
namespace Go.Eng
open Go.Proofs Go.RowKit
noncomputable def ZHh:FuncId×Con:=(203,⟨[.leaf 3,.leaf 3],[.leaf 3],fun p=>Z0b p.1 p.2⟩)
theorem Zxi:KQ ZHh:=Zh (Zz (C:=cf0 [ZUi,Zkk,Z6l,Zgt,Z2g] [] [] []) .no Tryz.func203 [] (fun v vals x z ha hz=>.trans (by kernel_rfl) (Zrz hz)) ⟨ZBj,Z1o,Z1s,iplus_k,ZNi,tr⟩)
end Go.Eng
set_option maxRecDepth 100000
set_option maxHeartbeats 4000000
namespace Go.Eng
open Go.Proofs Go.RowKit
noncomputable def ZCs:FuncId×Con:=(218,⟨[.leaf 2],[.leaf 2],fun p=>Z3h p⟩)
theorem Z9z:KQ ZCs:=Zh (Zz (C:=cf0 [ZLf] [] [] []) .no Tryz.func218 [] (fun v vals x z ha hz=>.trans (by kernel_rfl) (ZhA hz)) ⟨Zch,tr⟩)
end Go.Eng
set_option maxRecDepth 100000
set_option maxHeartbeats 4000000
namespace Go.Eng
open Go.Proofs Go.RowKit
noncomputable def Zse:FuncId×Con:=(208,⟨[.leaf 3],[.leaf 3],fun p=>Zib p⟩)
theorem Zbf:KQ Zse:=Zh (Zz (C:=cf0 [ZCs] [] [] []) .no Tryz.func208 [] (fun v vals x z ha hz=>.trans (by kernel_rfl) (ZEA hz)) ⟨Z9z,tr⟩)
end Go.Eng
set_option maxRecDepth 100000
set_option maxHeartbeats 4000000
namespace Go.Eng
open Go.Proofs Go.RowKit
noncomputable def Z4f:FuncId×Con:=(212,⟨[.leaf 3,.leaf 3],[.leaf 3],fun p=>ZSb p.1 p.2⟩)
theorem Zdh:KQ Z4f:=Zh (Zz (C:=cf0 [ZHh,Zse] [] [] []) .no Tryz.func212 [] (fun v vals x z ha hz=>.trans (by kernel_rfl) (Zgw hz)) ⟨Zxi,Zbf,tr⟩)
end Go.Eng
set_option maxRecDepth 100000
set_option maxHeartbeats 4000000
namespace Go.Eng
open Go.Proofs Go.RowKit
noncomputable def ZMj:FuncId×Con:=(204,⟨[.leaf 3,.leaf 3],[.int .i64],fun p=>Zge p.1 p.2⟩)
theorem Zvm:KQ ZMj:=Zh (Zz (C:=cf0 [ZSe,Z4f] [] [] []) .no Tryz.func204 [] (fun v vals x z ha hz=>.trans (by kernel_rfl) (ZPz hz)) ⟨Zug,Zdh,tr⟩)
end Go.Eng
set_option maxRecDepth 100000
set_option maxHeartbeats 4000000
namespace Go.Eng
open Go.Proofs Go.RowKit
noncomputable def Zzi:FuncId×Con:=(51,⟨[.slice (.leaf 3),.slice (.leaf 3)],[.bool],fun p=>Z1e p.1 p.2⟩)
theorem Zqk : KQ Zzi := Zh (Zu (C := cf0 [ZMj] [] [] [((59, "Cmp"), 204)]) (.n (.f (.n (.f (.cut ⟨⟨[0, 1, 7], [], [.s 8 (.dat (.int .i64))]⟩, [(.exit 0, ⟨[], [], []⟩), (.ret, ⟨[], [], [.s 1000 (.dat .bool)]⟩)]⟩ .no))))) Tryz.func51 [] (fun _ => by kernel_rfl) ⟨Zvm, tr⟩ tr ⟨ZEm, tr⟩)
end Go.Eng
set_option maxRecDepth 100000
set_option maxHeartbeats 4000000
namespace Go.Eng
open Go.Proofs Go.RowKit
noncomputable def qOf_q:FuncId×Con:=(209,⟨[.leaf 3,.leaf 3],[.leaf 3],fun p=>qOf_m p.1 p.2⟩)
theorem qOf_k:KQ qOf_q:=Zh (Zu (C:=cf0 [] [] [] []) .no Tryz.func209 [] (fun _=>by kernel_rfl))
end Go.Eng
set_option maxRecDepth 100000
set_option maxHeartbeats 4000000
namespace Go.Eng
open Go.Proofs Go.RowKit
noncomputable def Zoe:FuncId×Con:=(72,⟨[.int .i64],[.leaf 3],fun p=>ZUa p⟩)
theorem Z2e : KQ Zoe := Zh (Zu (C := cf0 [ZWl, qOf_q] [] [] [((59, "Of"), 209)]) .no Tryz.func72 [] (fun _ => by kernel_rfl) ⟨Zsq, qOf_k, tr⟩ tr ⟨Zow, tr⟩)
end Go.Eng
set_option maxRecDepth 100000
set_option maxHeartbeats 4000000
namespace Go.Eng
open Go.Proofs Go.RowKit
noncomputable def Zzu:FuncId×Con:=(217,⟨[.leaf 2,.leaf 2],[.leaf 2],fun p=>Zqi p.1 p.2⟩)
theorem ZNy:KQ Zzu:=Zh (Zz (C:=cf0 [ZLf,Z2g] [] [] []) .no Tryz.func217 [] (fun v vals x z ha hz=>.trans (by kernel_rfl) (ZKz hz)) ⟨Zch,ZNi,tr⟩)
end Go.Eng
set_option maxRecDepth 100000
set_option maxHeartbeats 4000000
namespace Go.Eng
open Go.Proofs Go.RowKit
noncomputable def ZKg:FuncId×Con:=(206,⟨[.leaf 3,.leaf 3],[.leaf 3],fun p=>ZQa p.1 p.2⟩)
theorem Zai:KQ ZKg:=Zh (Zz (C:=cf0 [ZUi,Zkk,Z2g,Zzu] [] [] []) .no Tryz.func206 [] (fun v vals x z ha hz=>.trans (by kernel_rfl) (Zrw hz)) ⟨ZBj,Z1o,ZNi,ZNy,tr⟩)
end Go.Eng
set_option maxRecDepth 100000
set_option maxHeartbeats 4000000
namespace Go.Eng
open Go.Proofs Go.RowKit
noncomputable def ZAk:FuncId×Con:=(48,⟨[.slice (.leaf 3),.slice (.leaf 3)],[.leaf 3],fun p=>Z1c p.1 p.2⟩)
theorem Zum : KQ ZAk := Zh (Zu (C := cf0 [Zoe, ZHh, ZKg] [] [] [((59, "Add"), 203), ((59, "Mul"), 206)]) (.n (.n (.f (.n (.f (.l [0, 1, 4, 5, 9] [] [.s 10 (.dat (.int .i64)), .l (.sl 5) (.box 59 (.dat (.leaf 3)))] 0 [4, 5] [] [.l (.sl 5) (.box 59 (.dat (.leaf 3)))] .no)))))) Tryz.func48 [] (fun _ => by kernel_rfl) ⟨Z2e, Zxi, Zai, tr⟩ tr ⟨Zrk, ZXh, tr⟩)
end Go.Eng
set_option maxRecDepth 100000
set_option maxHeartbeats 4000000
namespace Go.Eng
open Go.Proofs Go.RowKit
noncomputable def Z0k:FuncId×Con:=(52,⟨[.slice (.slice (.leaf 3)),.slice (.leaf 3)],[.slice (.leaf 3)],fun p=>ZFh p.1 p.2⟩)
theorem ZCm:KQ Z0k:=Zh (Zu (C:=cf0 [ZAk] [] [] []) (.n (.n (.f (.n (.f (.l [1,8,9] [] [.s 5 (.own 59 (.leaf 3)),.s 10 (.dat (.int .i64))] 0 [] [] [.s 5 (.own 59 (.leaf 3))] .no)))))) Tryz.func52 [] (fun _=>by kernel_rfl) ⟨Zum,tr⟩)
end Go.Eng
set_option maxRecDepth 100000
set_option maxHeartbeats 4000000
namespace Go.Eng
open Go.Proofs Go.RowKit
noncomputable def Zcs:FuncId×Con:=(46,⟨[.pair (.slice (.slice (.leaf 3))) (.pair (.slice (.leaf 3)) (.slice (.leaf 3))),.slice (.leaf 3)],[.bool],fun p=>ZZr p.1 p.2⟩)
theorem ZgB:KQ Zcs:=Zh (Zu (C:=cf0 [Z8h,Zzi,Z0k] [] [] []) (.n (.f (.j [] [] [.s 4 (.dat .bool)] .no))) Tryz.func46 [] (fun _=>by kernel_rfl) ⟨Zyl,Zqk,ZCm,tr⟩)
noncomputable def ZCl (x:Int) (y:Int):Option (Int×Int) :=
 bnd (Zpc x y) fun a =>
 some ((a.1,a.2))
end Go.Eng
namespace Go.Eng
open Go.Proofs Go.RowKit
theorem bmul_w {c:World} {a:Zb} (hv:VIn a c) {d:List Value} {x:Int} (i:Rep.rel (Zf .u64) a d x) {e:List Value} {y:Int} (j:Rep.rel (Zf .u64) a e y) {z:Int×Int} (H:ZCl x y=some z):Ret Tryz.prog 127 #[(Zf .u64).val d,(Zf .u64).val e] c a (fun y v'=>∃ g b,y = .tuple #[(Zf .u64).val g,(Zf .u64).val b]∧(Zf .u64).rel v' g z.1∧(Zf .u64).rel v' b z.2):=by
 obtain ⟨rfl,b⟩:=i;obtain ⟨rfl,k⟩:=j;refine Zej (K:=30) (args:=[.int .u64 x,.int .u64 y]) hv Tryz.func127 rfl rfl zl fun f S=>?_;unfold ZCl at H;refine sr (mw S rfl fun f S=>mw S rfl fun f S=>oe (ZC fun _ l=>ZOa S rfl rfl (wp_skip (Zp (l _ _ (ZC fun _ m=>bO H fun h n H=>ZW (mv S rfl fun f S=>mv S rfl fun f S=>opc S rfl (Zwa S [.int .u64 x,.int .u64 y] Z6m rfl rfl) (Zip S.vin (show Rep.rel (Zf .u64) _ [.int .u64 x] x from (Zca b)) (show Rep.rel (Zf .u64) _ [.int .u64 y] y from (Zca k)) n) ?_)))))));rintro _ s f w t ⟨u,v,rfl,o,p⟩ S;obtain ⟨rfl,q⟩:=o;obtain ⟨rfl,r⟩:=p;refine mv S rfl fun f S=>ov S rfl (ZAa S rfl rfl) fun f S=>ov S rfl (ZAa S rfl rfl) fun f S=>mw S rfl fun f S=>mw S rfl fun f S=>ZP (Zp (m _ _ (sr (mv S rfl fun f S=>mv S rfl fun f S=>mw S rfl fun f S=>mw S rfl fun f S=>oe (wp_ret ?_)))));obtain rfl:=ZL H;refine ZNf S (Zuk rfl (Z3a S rfl) (Z3a S rfl)) ⟨[.int .u64 (h.1)],[.int .u64 (h.2)],rfl,(Zca q),(Zca r)⟩
set_option maxRecDepth 100000
theorem Zcn:Elem Tryz.prog 31 59 (Z6).n 56 (Value.agg #[Value.bool false,Value.slice none 0 0,Value.slice none 0 0]):=⟨Tryz.underlying31,by kernel_rfl,rfl,by decide⟩
theorem Zil:ZDb Tryz.prog 31 59 (Z6).n:=⟨fun _=>by kernel_rfl,fun _=>by kernel_rfl⟩
theorem ZWA:Tryz.prog.follows .mixedOrders=true:=by kernel_rfl
theorem ZMw:ZN Tryz.prog 127:=fun _ _=>by kernel_rfl
theorem Zlv:ConvI Tryz.prog 3 200 .i64 .u64:=fun _ _=>by kernel_rfl
theorem ZNw:ConvI Tryz.prog 200 3 .u64 .i64:=fun _ _=>by kernel_rfl
noncomputable def Zxf:FuncId×ConO:=(93,⟨[.slice (.leaf 3),.int .i64],59,.leaf 3,fun p=>ZWc 56 p.1 p.2⟩)
theorem ZEi:Z4e Tryz.prog Zxf.1 Zxf.2:=fun w v vals x z hv ha hz=>by
 obtain ⟨cs,vs,rfl,p0,c1,rfl,rfl,hin⟩:=ha
 obtain ⟨x1,k0⟩:=x
 have hz:ZWc 56 (show List Rat from x1) k0=some z:=hz
 obtain ⟨y,hx1,hzr,hmk⟩:=ZSy hz
 have hx1:x1=[y]:=hx1
 subst hx1 hzr
 obtain ⟨h0,_,hb1,hb2⟩:=Zsd hmk
 obtain ⟨k,rfl⟩:=Int.eq_ofNat_of_zero_le h0
 obtain ⟨q,c,e,hc1,hc2,hne⟩:=(show (Zv Z6).rel v cs [y] from p0)
 subst e
 rcases hne with hne | ⟨b,off,cc,TT,fr,rfl,hvb,hrel⟩
 ·cases hne
 have hlen1:([y]:List Rat).length=1:=rfl
 rw [hlen1] at hrel
 obtain ⟨c1,c2,e12,hrc,e2⟩:=hrel
 have e2:c2=[]:=e2
 subst e2
 rw [List.append_nil,Nat.one_mul] at e12
 have hl1:=Rep.len _ hrc
 have hAt:At v b off c1:=⟨cc,TT,fr,hvb,by rw [hl1];exact e12⟩
 refine ⟨fun _ _=>by kernel_rfl,?_⟩
 have hk:((k:Int).toNat)=k:=Int.toNat_natCast k
 rw [hk]
 refine Zsl (K:=48) (args:=[.slice (some ⟨b,off,none⟩) 1 c,.int .i64 (k:Int)]) hv Tryz.func93 rfl rfl zl fun fa hS=>?_
 refine sr ?_
 refine mw hS rfl fun fa hS=>?_
 refine oe ?_
 refine wp_seq_k fun N1 hN1=>?_
 refine sr ?_
 refine mv hS rfl fun fa hS=>?_
 refine ov hS rfl (ZD hS rfl rfl ZHe) fun fa hS=>?_
 refine oe ?_
 refine ZOa hS rfl (decide_eq_false (by omega)) ?_
 refine wp_skip ?_
 refine Zp (hN1 _ _ ?_)
 refine sr ?_
 refine mv hS rfl fun fa hS=>?_
 refine ov hS rfl (ZRb hS rfl rfl Zil) fun fa hS=>?_
 refine ov hS rfl (Zrg hS rfl (Zlv _)) fun fa hS=>?_
 refine mv hS rfl fun fa hS=>?_
 refine ov hS rfl (Zrg hS rfl (Zlv _)) fun fa hS=>?_
 have w1:IntKind.u64.wrap ((1:Nat):Int)=1:=by decide
 have w2:IntKind.u64.wrap (k:Int)=k:=Z5c (ZGc.2 (by omega))
 rw [w1,w2] at hS
 have hmul:ZCl 1 (k:Int)=some (0,(k:Int)):=by
  unfold ZCl Zpc;rw [if_pos (by omega),Za];simp only;congr 2 <;> omega
 refine Zwv hS wn rfl zl (Zwa hS [.int .u64 1,.int .u64 (k:Int)] ZMw rfl rfl) (bmul_w hS.vin (show Rep.rel (Zf .u64) _ [.int .u64 1] 1 from Zca (by decide)) (show Rep.rel (Zf .u64) _ [.int .u64 (k:Int)] (k:Int) from Zca (ZGc.2 (by omega))) hmul) ?_;rintro _ v1 fa wo hle ⟨r0,r1,rfl,⟨rfl,_⟩,⟨rfl,_⟩⟩ hS;refine mv hS rfl fun fa hS=>?_;refine ov hS rfl (ZAa hS rfl rfl) fun fa hS=>?_;refine ov hS rfl (ZAa hS rfl rfl) fun fa hS=>?_;refine mw hS rfl fun fa hS=>?_;refine mw hS rfl fun fa hS=>?_;refine oe ?_;refine wp_seq_k fun N2 hN2=>?_;refine sr ?_;refine mv hS rfl fun fa hS=>?_;refine ov hS rfl (ZD hS rfl rfl ZDf) fun fa hS=>?_;have g1:decide ((0:Int)<0)=false:=rfl;have hS:St _ _ _ ((22,Value.bool false) :: _) _ _ _ _:=hS;refine mv hS rfl fun fa hS=>?_;refine op_v hS (Zfg hS rfl rfl rfl zl) rfl zl (ZJ hS rfl) fun fa hS=>?_;refine op_v hS (Zfg hS rfl rfl rfl zl) rfl zl (ZD hS rfl rfl ZDf) fun fa hS=>?_;refine ov hS rfl (Zaf (b:=false) hS rfl rfl) fun fa hS=>?_;refine oe ?_;refine ZOa hS rfl (decide_eq_false (by omega)) ?_;refine wp_skip ?_;refine Zp (hN2 _ _ ?_);refine sr ?_;refine mv hS rfl fun fa hS=>?_;refine ov hS rfl (Zrg hS rfl (ZNw _)) fun fa hS=>?_;have w3:IntKind.i64.wrap (k:Int)=k:=Z5c (ZTa.2 (by omega));rw [w3] at hS;obtain ⟨b2,wo,hrun,hS'⟩:=ZMo Zcn hS (l:=(k:Int)) (c:=(k:Int)) h0 (Int.le_refl _) hb1 hb2
 refine ZAc wn rfl zl (hrun rfl rfl) hS' fun fa hS=>?_;refine mw hS rfl fun fa hS=>?_;refine oe ?_;rw [hk] at hS;have hS:=hS.fr' (σ':=[(7,.slice (mkA (some b2)) k k),(0,.slice (some ⟨b,off,none⟩) 1 c)]) rfl;have src1:∀ {σ:List (Nat×Value)} {ℓ:List Loc} {v':Zb} {a:Act} {w':World},St 48 w v σ ℓ v' a w'→∀ j u,c1[j]? = some u→w'.cell? ((⟨b,off,none⟩:Addr).add j)=some u:=fun hS j u hu=>by
  have:=(hS.view (At.mono hS.vst.le hAt)).cell hu
  rwa [Zpa]
 have hpl1:c1.all plain=true:=Rep.flat _ hrc;obtain ⟨zc,hzc⟩:∃ zc:List Value,zc=(Value.agg #[Value.bool false,Value.slice none 0 0,Value.slice none 0 0]:Value).cells.toList:=⟨_,rfl⟩;have hzl:zc.length=(Z6).n:=by rw [hzc];rfl
 rw [← hzc] at hS
 let Inv:Nat→Act→World→Prop:=fun j a w'=>∃ v',j≤k∧(0<k→0<j)∧St 48 w v [(8,.int .i64 (j:Int)),(7,.slice (mkA (some b2)) k k)] [.own (some b2) 59 (Z6).n k k ((List.replicate j c1).flatten++(List.replicate (k-j) zc).flatten)] v' a w'
 have rl:=fun n=>Z2j hl1 n;have rpl:∀ n:Nat,((List.replicate n c1).flatten).all plain=true:=fun n=>Zjz hpl1 n;have step:=fun j m (hjm:j+m≤k)=>rp_step (k:=k) hl1 hzl hjm;refine sr ?_;refine mv hS rfl fun fa hS=>?_;refine mv hS rfl fun fa hS=>?_;have hS1:St 48 w v _ [.own (some b2) 59 (Z6).n k k ((List.replicate 0 c1).flatten++(List.replicate (k-0) zc).flatten)] v1 fa wo:=hS;obtain ⟨wo2,hr,hS'⟩:=ZBq (t:=31) (sT:=31) Zcn hS1 (i:=0) rfl (p:=0) (k:=min 1 k) (c:=(List.replicate (min 1 k) c1).flatten) (rl _) (by omega) (rpl _) (ad:=⟨b,off,none⟩) (sLen:=1) (sCap:=c) (dLen:=k) (dCap:=k) (fun j u hu=>by
  rcases Nat.lt_or_ge 0 k with hk0 | hk0
  ·rw [show min 1 k=1 by omega] at hu;simp only [List.replicate_one,List.flatten_cons,List.flatten_nil,List.append_nil] at hu;exact src1 hS1 j u hu
  ·rw [show min 1 k=0 by omega] at hu;simp at hu) rfl
 have hst:=step 0 (min 1 k) (by omega);simp only [List.set_cons_zero] at hS';rw [hst] at hS';simp only [Nat.zero_add] at hS';rw [Nat.zero_mul] at hr;refine ZAc wn rfl zl (Zwq hS1 rfl rfl (hr _)) hS' fun fa hS=>?_;refine mw hS rfl fun fa hS=>?_;refine oe ?_;have hS:=hS.fr' (σ':=[(8,.int .i64 ((min 1 k:Nat):Int)),(7,.slice (mkA (some b2)) k k)]) rfl;refine wp_seq_k fun N3 hN3=>?_;refine wp_block ?_;refine wp_loop_fuel (fun m a w'=>∃ j,k-j<m∧Inv j a w') (k+1) ⟨min 1 k,by omega,v1,by omega,by omega,hS⟩ (fun a w' ⟨j,h,_⟩=>by omega) ?_;rintro m fa wo3 ⟨j,hjm,v3,hjk,hj0,hS⟩ N hN;refine wp_seq_k fun N4 hN4=>?_;refine sr ?_;refine mv hS rfl fun fa hS=>?_;refine mv hS rfl fun fa hS=>?_;refine ov hS rfl (ZRb hS rfl rfl Zil) fun fa hS=>?_;refine ov hS rfl (ZD hS rfl rfl ZHe) fun fa hS=>?_;refine oe ?_;by_cases hlt:j<k
 ·refine Zrb hS rfl (decide_eq_true (by omega)) ?_;refine wp_skip ?_;refine Zp (hN4 _ _ ?_);refine wp_block ?_;have hS:=hS.fr' (σ':=[(8,.int .i64 (j:Int)),(7,.slice (mkA (some b2)) k k)]) rfl;refine Z3g (fl:=#[true,true,true,true,true,true,true,false,false,false]) ZWA (by kernel_rfl) hS ?_;intro ops hops hF wo hS;refine rf hops hF 0 rfl (by kernel_rfl) rfl hS (ZJ hS rfl) fun fa hS=>?_;refine rf hops hF 1 rfl (by kernel_rfl) rfl hS (ZJ hS rfl) fun fa hS=>?_;refine rf hops hF 2 rfl (by kernel_rfl) rfl hS (ZJ hS rfl) fun fa hS=>?_;refine rf hops hF 3 rfl (by kernel_rfl) rfl hS (Z0v hS Zil rfl rfl (by omega) (by omega)) fun fa hS=>?_;refine rf hops hF 4 rfl (by kernel_rfl) rfl hS (ZJ hS rfl) fun fa hS=>?_;refine rf hops hF 5 rfl (by kernel_rfl) rfl hS (ZJ hS rfl) fun fa hS=>?_;refine rf hops hF 6 rfl (by kernel_rfl) rfl hS (ZXl hS Zil rfl rfl (by omega) (by omega)) fun fa hS=>?_;rw [Nat.zero_add] at hS;obtain ⟨wo',hr,hS'⟩:=ZBq (t:=31) (sT:=31) Zcn hS (i:=0) rfl (p:=j) (k:=min j (k-j)) (c:=(List.replicate (min j (k-j)) c1).flatten) (rl _) (by omega) (rpl _) (ad:=⟨b2,0,none⟩) (sLen:=j) (sCap:=k) (dLen:=k-j) (dCap:=k-j) (fun i u hu=>by
   have hi:=(List.getElem?_eq_some_iff.1 hu).1;refine Zqh hS (j:=0) rfl i u ?_;rw [ZDs (c:=c1) (m:=min j (k-j)) (n:=j) (by omega),List.append_assoc,List.getElem?_append_left hi];exact hu) rfl
  have hst:=step j (min j (k-j)) (by omega);simp only [List.set_cons_zero] at hS';rw [hst] at hS';refine ZPe hops hF 7 (by kernel_rfl) ?_;refine Zsn [3,6,1,2,4,5] [0] hops rfl (by kernel_rfl) wn rfl zl (Zwq hS rfl rfl (hr _)) hS' fun fa hS=>?_;refine ⟨(py hS rfl rfl (ZJ hS rfl) Zsc),?_⟩;refine ZPe hops hF 8 (by kernel_rfl) ?_;have hadd:chk .i64 ((j:Int)+((min j (k-j):Nat):Int))=some ((j+min j (k-j):Nat):Int):=by rw [Zl (by omega) (by omega)];rfl
  refine nv [0,7,3,6,1,2,4,5] [] hops rfl (by kernel_rfl) rfl hS (ZD hS rfl rfl (Z2f hadd)) fun fa hS=>?_;refine ⟨Zsc,?_⟩;refine ZPe hops hF 9 (by kernel_rfl) ?_;refine nv [0,1,2,3,4,5,6,7,8] [] hops rfl (by kernel_rfl) rfl hS (ZLd hS rfl) fun fa hS=>?_;refine ⟨Zsc,?_⟩;refine Zck hops hF (by kernel_rfl) ?_;refine Zud ?_;have hj0:=hj0 (by omega);exact Zp (hN _ _ ⟨j+min j (k-j),by omega,v3,by omega,fun _=>by omega,hS.fr' rfl⟩)
 refine ZOa hS rfl (decide_eq_false (by omega)) ?_;refine wp_exit ?_;refine Z7a ?_;refine Z7a ?_;refine Zzd ?_;refine Zp (hN3 _ _ ?_);have hjk:j=k:=by omega
 subst hjk;rw [Nat.sub_self,List.replicate_zero,List.flatten_nil,List.append_nil] at hS;refine sr ?_;refine mv hS rfl fun fa hS=>?_;refine mw hS rfl fun fa hS=>?_;refine oe ?_;refine wp_ret ?_;exact ZIm hS (i:=0) rfl (Z3c rfl (Z3a hS rfl)) (ZHg (Rep.mono _ hS.vst.le hrc) _) (List.length_replicate (n:=j) (a:=y)).symm
end Go.Eng
set_option maxRecDepth 100000
set_option maxHeartbeats 4000000
namespace Go.Eng
open Go.Proofs Go.RowKit
noncomputable def ZAf:FuncId×ConO:=(53,⟨[.int .i64],59,.leaf 3,fun p=>ZDe p⟩)
theorem Zyg:KO ZAf:=Zsp (C:=cf0 [Zoe] [] [Zxf] []) .no Tryz.func53 [] (fun _=>by kernel_rfl) ⟨Z2e,tr⟩ ⟨ZEi,tr⟩
end Go.Eng
set_option maxRecDepth 100000
set_option maxHeartbeats 4000000
namespace Go.Eng
open Go.Proofs Go.RowKit
noncomputable def Zuj:FuncId×Con:=(50,⟨[.pair (.slice (.slice (.leaf 3))) (.pair (.slice (.leaf 3)) (.slice (.leaf 3))),.slice (.leaf 3)],[.slice (.leaf 3)],fun p=>ZAh p.1 p.2⟩)
theorem Zhn : KQ Zuj := Zh (Zu (C := cf0 [ZHh, ZKg] [] [ZAf] [((59, "Add"), 203), ((59, "Mul"), 206)]) (.n (.n (.f (.n (.f (.l [1, 5, 15, 16] [] [.s 17 (.dat (.int .i64)), .l (.sl 5) (.own 59 (.leaf 3))] 0 [5] [] [.l (.sl 5) (.own 59 (.leaf 3))] (.f (.n (.n (.f (.f (.n (.n (.f (.l [1, 5, 6, 15, 16, 17, 22, 23] [] [.s 24 (.dat (.int .i64)), .l (.sl 5) (.own 59 (.leaf 3))] 2 [1, 5, 15, 16, 17] [] [.l (.sl 5) (.own 59 (.leaf 3))] .no))))))))))))))) Tryz.func50 [] (fun _ => by kernel_rfl) ⟨Zxi, Zai, tr⟩ ⟨Zyg, tr⟩ ⟨Zrk, ZXh, tr⟩)
end Go.Eng
set_option maxRecDepth 100000
set_option maxHeartbeats 4000000
namespace Go.Eng
open Go.Proofs Go.RowKit
noncomputable def ZNr:FuncId×Con:=(47,⟨[.pair (.slice (.slice (.leaf 3))) (.pair (.slice (.leaf 3)) (.slice (.leaf 3))),.slice (.leaf 3)],[.bool],fun p=>ZYu p.1 p.2⟩)
theorem pdual_k:KQ ZNr:=Zh (Zu (C:=cf0 [Z8h,Zuj,Zzi] [] [] []) (.n (.f (.j [] [] [.s 4 (.dat .bool)] .no))) Tryz.func47 [] (fun _=>by kernel_rfl) ⟨Zyl,Zhn,Zqk,tr⟩)
end Go.Eng
set_option maxRecDepth 100000
set_option maxHeartbeats 4000000
namespace Go.Eng
open Go.Proofs Go.RowKit
noncomputable def Zuv:FuncId×Con:=(210,⟨[.leaf 3,.leaf 3],[.bool],fun p=>ZMi p.1 p.2⟩)
theorem qsame_k:KQ Zuv:=Zh (Zz (C:=cf0 [ZTj] [] [] []) (.n (.f (.j [] [] [.s 4 (.dat .bool)] .no))) Tryz.func210 [] (fun v vals x z ha hz=>.trans (by kernel_rfl) (ZjB hz)) ⟨cmp_k,tr⟩)
end Go.Eng
set_option maxRecDepth 100000
set_option maxHeartbeats 4000000
namespace Go.Eng
open Go.Proofs Go.RowKit
noncomputable def Ztq:FuncId×Con:=(14,⟨[.pair (.slice (.slice (.leaf 3))) (.pair (.slice (.leaf 3)) (.slice (.leaf 3))),.pair (.int .i64) (.pair (.leaf 3) (.pair (.slice (.leaf 3)) (.pair (.slice (.leaf 3)) (.slice (.leaf 3)))))],[.bool],fun p=>ZHt p.1 p.2⟩)
theorem ZpB : KQ Ztq := Zh (Zu (C := cf0 [Zih, ZCo, Zcs, ZNr, ZAk, Z8h, Zuj, Zzi, Z0k, Zuv, ZSe] [] [ZAf] [((59, "Same"), 210), ((59, "Sign"), 211), ((59, "Zero"), 25)]) (.n (.n (.two (.j [2, 3] [] [.s 5 (.dat .bool)] .no) (.f (.n (.f (.n (.two (.f (.j [] [] [.s 4 (.dat .bool)] .no)) (.n (.two (.f (.j [] [] [.s 4 (.dat .bool)] .no)) (.n (.f (.two (.f (.j [2, 3] [] [.s 135 (.dat .bool)] .no)) (.f (.j [] [] [.s 4 (.dat .bool)] .no))))))))))))))) Tryz.func14 [] (fun _ => by kernel_rfl) ⟨Zhi, ZWq, ZgB, pdual_k, Zum, Zyl, Zhn, Zqk, ZCm, qsame_k, Zug, tr⟩ ⟨Zyg, tr⟩ ⟨Zqy, ZNg, ZIj, tr⟩)
end Go.Eng
namespace Go.Eng
open Go.Proofs Go.RowKit
set_option maxRecDepth 100000
theorem Zou:Elem Tryz.prog 31 59 (Z6).n 56 (Value.agg #[Value.bool false,Value.slice none 0 0,Value.slice none 0 0]):=⟨Tryz.underlying31,by kernel_rfl,rfl,by decide⟩
noncomputable def Zxh:FuncId×ConO:=(71,⟨[.slice (.leaf 3)],59,.leaf 3,fun p=>Zoc 56 p⟩)
theorem Z1j:Z4e Tryz.prog Zxh.1 Zxh.2:=fun w v vals x z hv ha hz=>by
 obtain ⟨cs,rfl,p0⟩:=ha
 have hz:Zoc 56 (show List Rat from x)=some z:=hz
 obtain ⟨hb,rfl⟩:=ZnB hz
 obtain ⟨q,n,c,rfl⟩:=Zog (show (Zv Z6).rel v cs z from p0)
 refine ⟨fun _ _=>by kernel_rfl,?_⟩
 have hn:n=(show List Rat from z).length:=by obtain ⟨_,_,e,_⟩:=p0;cases e;rfl
 refine Zsl (K:=8) (args:=[.slice q n c]) hv Tryz.func71 rfl rfl zl fun fa hS=>?_
 refine sr ?_
 refine mw hS rfl fun fa hS=>?_
 refine oe ?_
 refine wp_seq_k fun N1 hN1=>?_
 refine sr ?_
 refine mv hS rfl fun fa hS=>?_
 refine ov hS rfl (ZWw hS Tryz.underlying31 rfl rfl) fun fa hS=>?_
 refine oe ?_
 cases q with
 | none =>
  refine Zrb hS rfl rfl ?_
  have hx:(show List Rat from z)=[]:=by
   obtain ⟨q',c',e,_,_,h3⟩:=p0
   cases e
   rcases h3 with h3 | ⟨_,_,_,_,_,h4,_⟩
   ·exact h3
   ·cases h4
  have hx0:n=0:=by rw [hn,hx];rfl
  refine sr ?_;refine mw hS rfl fun fa hS=>?_;refine oe ?_;refine wp_ret ?_;refine ZOh ?_;have hS2:=hS.nilLoc 59 (Z6).n;have:=ZIm (P:=Tryz.prog) (A:=Z6) hS2 (i:=0) (ob:=none) (n:=0) (cap:=0) (cs:=[]) rfl (Z3c (fn:=Tryz.f71) (r:=.tmp 2) rfl (Z3a (t:=2) (y:=.slice (mkA none) 0 0) hS2 rfl)) (l:=([]:List Rat)) ZKd rfl;rw [hx];exact this
 | some ad =>
  refine ZOa hS rfl rfl ?_;refine wp_skip ?_;refine Zp (hN1 _ _ ?_);refine sr ?_;obtain ⟨b,wo,hrun,hS⟩:=ZGz Zou hS;refine ZAc wn rfl zl hrun hS fun fa hS=>?_;refine mv hS rfl fun fa hS=>?_;obtain ⟨b',cap',cs2,wo,hr,hS',hrel⟩:=ZGf (ty:=31) (A:=Z6) Zou hS (i:=0) rfl (Rep.mono (Zv Z6) hS.vst.le p0) (n':=n) (by omega) (by rw [hn];exact hb) (by decide);refine ZAc wn rfl zl (ZCe hS rfl rfl hr) hS' fun fa hS=>?_;refine mw hS rfl fun fa hS=>?_;refine oe ?_;refine wp_ret ?_;exact ZIm hS (i:=0) rfl (Z3c rfl (Z3a hS rfl)) hrel hn
end Go.Eng
set_option maxRecDepth 100000
set_option maxHeartbeats 4000000
namespace Go.Eng
open Go.Proofs Go.RowKit
noncomputable def Zqo:FuncId×ConM:=(81,⟨[.slice (.slice (.leaf 3))],31,59,.leaf 3,fun p=>Z3i p⟩)
theorem ZHr:KW Zqo:=conm_z (C:=cf0 [] [8] [Zxh] []) (.n (.n (.f (.n (.f (.l [3,9,10] [] [.s 11 (.dat (.int .i64)),.l (.sl 3) (.mat 31 59 (.leaf 3))] 0 [3] [] [.l (.sl 3) (.mat 31 59 (.leaf 3))] .no)))))) Tryz.func81 [] (fun _=>by kernel_rfl) tr ⟨Z1j,tr⟩
end Go.Eng
set_option maxRecDepth 100000
set_option maxHeartbeats 4000000
namespace Go.Eng
open Go.Proofs Go.RowKit
noncomputable def Z0p:FuncId×Con:=(111,⟨[.ptr (.pair (.slice (.slice (.leaf 3))) (.pair (.slice (.leaf 3)) (.pair (.slice (.leaf 3)) (.pair (.leaf 3) (.pair (.slice (.int .i64)) (.slice (.int .i64))))))),.int .i64],[.slice (.leaf 3)],fun p=>ZQi p.1 p.2⟩)
theorem Zzz:KQ Z0p:=Zh (Zu (C:=cf0 [] [] [ZAf] []) (.n (.n (.f (.n (.f (.l [0,1,5,13,14] [] [.s 15 (.dat (.int .i64)),.l (.sl 5) (.own 59 (.leaf 3))] 0 [5] [] [.l (.sl 5) (.own 59 (.leaf 3))] (.f (.n (.n (.f (.f (.n (.n (.j [0,1,5,13,14,15] [] [.l (.sl 5) (.own 59 (.leaf 3))] .no)))))))))))))) Tryz.func111 [] (fun _=>by kernel_rfl) tr ⟨Zyg,tr⟩)
end Go.Eng
set_option maxRecDepth 100000
set_option maxHeartbeats 4000000
namespace Go.Eng
open Go.Proofs Go.RowKit
noncomputable def ZRp:FuncId×Con:=(112,⟨[.ptr (.pair (.slice (.slice (.leaf 3))) (.pair (.slice (.leaf 3)) (.pair (.slice (.leaf 3)) (.pair (.leaf 3) (.pair (.slice (.int .i64)) (.slice (.int .i64))))))),.int .i64,.int .i64],[.slice (.leaf 3)],fun p=>ZTl p.1 p.2.1 p.2.2⟩)
theorem ZMz : KQ ZRp := Zh (Zu (C := cf0 [Zse] [] [ZAf] [((59, "Neg"), 208)]) (.n (.n (.f (.n (.f (.l [0, 1, 2, 7, 15, 16] [] [.s 17 (.dat (.int .i64)), .l (.sl 7) (.own 59 (.leaf 3))] 0 [7] [] [.l (.sl 7) (.own 59 (.leaf 3))] (.f (.n (.n (.f (.f (.n (.two (.j [0, 1, 2, 7, 8, 9, 15, 16, 17] [] [.s 31 (.dat .bool)] .no) (.j [0, 1, 2, 7, 15, 16, 17] [] [.l (.sl 7) (.own 59 (.leaf 3))] .no)))))))))))))) Tryz.func112 [] (fun _ => by kernel_rfl) ⟨Zbf, tr⟩ ⟨Zyg, tr⟩ ⟨Z7f, tr⟩)
end Go.Eng
set_option maxRecDepth 100000
set_option maxHeartbeats 4000000
namespace Go.Eng
open Go.Proofs Go.RowKit
noncomputable def ZUk:FuncId×Con:=(205,⟨[.leaf 3,.leaf 3],[.leaf 3,.int .i64],fun p=>Z5e p.1 p.2⟩)
theorem Zoo:KQ ZUk:=Zh (Zz (C:=cf0 [Zih,ZUi,ZLf,Zkk,Z6l,Z2g] [] [] []) (.n (.n (.f (.j [2,3,4] [] [.s 6 (.box 57 (.dat (.leaf 2)))] .no)))) Tryz.func205 [] (fun v vals x z ha hz=>.trans (by kernel_rfl) (Zcw hz)) ⟨Zhi,ZBj,Zch,Z1o,Z1s,ZNi,tr⟩)
end Go.Eng
set_option maxRecDepth 100000
set_option maxHeartbeats 4000000
namespace Go.Eng
open Go.Proofs Go.RowKit
noncomputable def Zro:FuncId×ConB:=(138,⟨176,(.agg (.cons (.mat 31 59 (.leaf 3)) (.cons (.own 59 (.leaf 3)) (.cons (.own 59 (.leaf 3)) (.cons (.dat (.leaf 3)) (.cons (.own 3 (.int .i64)) (.one (.own 3 (.int .i64))))))))),[.int .i64,.int .i64],[],fun z x=>ZYe z x.1 x.2⟩)
theorem ZQs : KB Zro := ZFg (C := cf0 [Zih, Zoe, ZHh, ZUk, ZKg, Zse, Z4f] [] [] [((59, "Add"), 203), ((59, "Div"), 205), ((59, "Mul"), 206), ((59, "Neg"), 208), ((59, "Sub"), 212), ((59, "Zero"), 25)]) (.n (.n (.two (.n (.f (.l [0, 1, 2, 7, 37] [] [.s 38 (.dat (.int .i64)), .l (.sl 20) (.mat 31 59 (.leaf 3))] 0 [0, 1, 2, 7] [] [.l (.sl 20) (.mat 31 59 (.leaf 3))] .no))) (.n (.n (.f (.n (.f (.l [0, 1, 2, 94] [] [.s 95 (.dat (.int .i64)), .l (.sl 67) (.mat 31 59 (.leaf 3)), .l (.sl 77) (.own 59 (.leaf 3))] 2 [0, 1, 2] [] [.l (.sl 67) (.mat 31 59 (.leaf 3)), .l (.sl 77) (.own 59 (.leaf 3))] (.f (.n (.n (.f (.j [0, 1, 2, 94, 95] [] [.l (.fld (.sl 0) 0) (.mat 31 59 (.leaf 3)), .l (.fld (.sl 0) 1) (.own 59 (.leaf 3))] (.f (.n (.f (.f (.j [0, 1, 2, 10, 94, 95] [] [.s 114 (.dat .bool)] .no))))))))))))))))))) Tryz.func138 [(169, Tryz.f169, .sel 1 (.n (.f (.n (.f (.l [0, 1, 2, 3, 8, 15] [] [.s 16 (.dat (.int .i64)), .l (.fld (.sl 0) 0) (.agg (.mat 31 59 (.leaf 3)))] 0 [0, 1, 2, 3, 8] [] [.l (.fld (.sl 0) 0) (.agg (.mat 31 59 (.leaf 3)))] .no))))) (.n (.f (.n (.f (.l [0, 1, 2, 3, 8, 15] [] [.s 16 (.dat (.int .i64)), .l (.sl 1) (.own 59 (.leaf 3))] 0 [0, 1, 2, 3, 8] [] [.l (.sl 1) (.own 59 (.leaf 3))] .no))))))] (fun _ _ => by kernel_rfl) ⟨Zhi, Z2e, Zxi, Zoo, Zai, Zbf, Zdh, tr⟩ tr ⟨Zrk, ZDo, ZXh, Z7f, ZQh, ZIj, tr⟩ ⟨⟨Tryz.func169, fun _ _ => by kernel_rfl⟩, tr⟩
end Go.Eng
set_option maxRecDepth 100000
set_option maxHeartbeats 4000000
namespace Go.Eng
open Go.Proofs Go.RowKit
noncomputable def ZVp:FuncId×ConB:=(142,⟨176,(.agg (.cons (.mat 31 59 (.leaf 3)) (.cons (.own 59 (.leaf 3)) (.cons (.own 59 (.leaf 3)) (.cons (.dat (.leaf 3)) (.cons (.own 3 (.int .i64)) (.one (.own 3 (.int .i64))))))))),[],[.int .i64],fun z x=>ZSg z⟩)
theorem Z0w : KB ZVp := ZFg (C := cf0 [ZSe] [] [] [((59, "Sign"), 211)]) (.n (.n (.f (.n (.f (.l [0, 9, 10] [] [.s 3 (.dat (.int .i64)), .s 11 (.dat (.int .i64))] 0 [] [] [.s 3 (.dat (.int .i64))] (.f (.n (.n (.f (.f (.n (.two (.j [0, 3, 4, 9, 10, 11] [] [.s 40 (.dat .bool)] .no) (.j [0, 9, 10, 11] [] [.s 3 (.dat (.int .i64))] .no)))))))))))))) Tryz.func142 [] (fun _ _ => by kernel_rfl) ⟨Zug, tr⟩ tr ⟨ZNg, tr⟩
end Go.Eng
set_option maxRecDepth 100000
set_option maxHeartbeats 4000000
namespace Go.Eng
open Go.Proofs Go.RowKit
noncomputable def ZSt:FuncId×ConB:=(143,⟨176,(.agg (.cons (.mat 31 59 (.leaf 3)) (.cons (.own 59 (.leaf 3)) (.cons (.own 59 (.leaf 3)) (.cons (.dat (.leaf 3)) (.cons (.own 3 (.int .i64)) (.one (.own 3 (.int .i64))))))))),[.int .i64,.int .i64],[.int .i64],fun z x=>ZDh z x.1 x.2⟩)
theorem Ziw : KB ZSt := ZFg (C := cf0 [ZMj, ZUk, ZSe] [] [] [((59, "Cmp"), 204), ((59, "Div"), 205), ((59, "Sign"), 211)]) (.n (.n (.n (.f (.n (.f (.l [0, 1, 2, 8, 17] [] [.s 7 (.dat (.int .i64)), .s 18 (.dat (.int .i64)), .l (.sl 8) (.box 59 (.dat (.leaf 3)))] 0 [] [] [.s 7 (.dat (.int .i64))] (.f (.n (.n (.f (.j [0, 1, 2, 8, 17, 18] [] [.s 7 (.dat (.int .i64)), .l (.sl 8) (.box 59 (.dat (.leaf 3)))] (.f (.n (.n (.n (.n (.two (.n (.j [0, 1, 2, 7, 8, 9, 10, 17, 18] [] [.s 12 (.dat (.int .i64))] .no)) (.two (.j [0, 1, 2, 7, 8, 9, 10, 17, 18] [] [.s 110 (.dat .bool)] .no) (.j [0, 1, 2, 8, 17, 18] [] [.s 7 (.dat (.int .i64)), .l (.sl 8) (.box 59 (.dat (.leaf 3)))] .no)))))))))))))))))))) Tryz.func143 [] (fun _ _ => by kernel_rfl) ⟨Zvm, Zoo, Zug, tr⟩ tr ⟨ZEm, ZDo, ZNg, tr⟩
end Go.Eng
set_option maxRecDepth 100000
set_option maxHeartbeats 4000000
namespace Go.Eng
open Go.Proofs Go.RowKit
noncomputable def Z1m:FuncId×ConB:=(110,⟨176,(.agg (.cons (.mat 31 59 (.leaf 3)) (.cons (.own 59 (.leaf 3)) (.cons (.own 59 (.leaf 3)) (.cons (.dat (.leaf 3)) (.cons (.own 3 (.int .i64)) (.one (.own 3 (.int .i64))))))))),[.int .i64],[.int .i64],fun z x=>ZNh z x⟩)
theorem ZMt:KB Z1m:=ZFg (C:=cf1 [] [] [] [] [] [Zro,ZVp,ZSt] []) (.n (.f (.cut ⟨⟨[0,1],[.fld (.sl 0) 0,.fld (.sl 0) 1,.fld (.sl 0) 2,.fld (.sl 0) 6,.fld (.sl 0) 7],[.l (.sl 0) (.box 176 (.agg (.cons (.mat 31 59 (.leaf 3)) (.cons (.own 59 (.leaf 3)) (.cons (.own 59 (.leaf 3)) (.cons (.dat (.leaf 3)) (.cons (.own 3 (.int .i64)) (.one (.own 3 (.int .i64))))))))))]⟩,[(.ret,⟨[],[.fld (.sl 0) 0,.fld (.sl 0) 1,.fld (.sl 0) 2,.fld (.sl 0) 6,.fld (.sl 0) 7],[.s 1000 (.dat (.int .i64)),.l (.sl 0) (.box 176 (.agg (.cons (.mat 31 59 (.leaf 3)) (.cons (.own 59 (.leaf 3)) (.cons (.own 59 (.leaf 3)) (.cons (.dat (.leaf 3)) (.cons (.own 3 (.int .i64)) (.one (.own 3 (.int .i64))))))))))]⟩)]⟩ .no))) Tryz.func110 [] (fun _ _=>by kernel_rfl) tr tr tr tr tr ⟨ZQs,Z0w,Ziw,tr⟩
end Go.Eng
set_option maxRecDepth 100000
set_option maxHeartbeats 4000000
namespace Go.Eng
open Go.Proofs Go.RowKit
noncomputable def Zfu:FuncId×ConB:=(112,⟨176,(.agg (.cons (.mat 31 59 (.leaf 3)) (.cons (.own 59 (.leaf 3)) (.cons (.own 59 (.leaf 3)) (.cons (.dat (.leaf 3)) (.cons (.own 3 (.int .i64)) (.one (.own 3 (.int .i64))))))))),[.int .i64,.int .i64],[.slice (.leaf 3)],fun z x=>Zak z x.1 x.2⟩)
theorem ZdB : KB Zfu := ZFg (C := cf0 [Zoe, Zse] [] [Zxf] [((59, "Neg"), 208)]) (.n (.n (.f (.n (.f (.l [0, 1, 2, 7, 15, 16] [] [.s 17 (.dat (.int .i64)), .l (.sl 7) (.own 59 (.leaf 3))] 0 [7] [] [.l (.sl 7) (.own 59 (.leaf 3))] (.f (.n (.n (.f (.f (.n (.two (.j [0, 1, 2, 7, 8, 9, 15, 16, 17] [] [.s 31 (.dat .bool)] .no) (.j [0, 1, 2, 7, 15, 16, 17] [] [.l (.sl 7) (.own 59 (.leaf 3))] .no)))))))))))))) Tryz.func112 [(53, Tryz.f53, .no)] (fun _ _ => by kernel_rfl) ⟨Z2e, Zbf, tr⟩ ⟨ZEi, tr⟩ ⟨Z7f, tr⟩ ⟨⟨Tryz.func53, fun _ _ => by kernel_rfl⟩, tr⟩
end Go.Eng
namespace Go.Eng
open Go.RowKit
section
variable {P:Program} {K:Nat} {w0:Base} {v0:Zb} {σ:List (Nat×Value)} {ℓ:List Loc} {v:Zb} {a:Act} {w:World}
variable {d:Option Nat} {ty:TypeId} {pos:String} {aft:Array Edge} {g:Option (Nat×Bool)}
theorem ZYq (hS:St K w0 v0 σ ℓ v a w) {t e:TypeId} {sz b n cap p q m:Nat} {x lo hi mx:Operand} {k k2 k3:IntKind} (ht:ZDb P t e sz) (e1:ev σ x=some (.slice (some ⟨b,0,none⟩) n cap)) (e2:ev σ lo=some (.int k (p:Int))) (e3:ev σ hi=some (.int k2 (q:Int))) (e4:ev σ mx=some (.int k3 (m:Int))) (h1:p≤q) (h2:q≤m) (h3:m≤cap) :
  ∃ y,(execOp a.eval ⟨d,.slice t x (some lo) (some hi) (some mx),ty,pos,aft,g⟩).run P w = .ok (.value y) w:=by
 have h4:(0:Int)≤(p:Int)∧(p:Int)≤(q:Int):=by omega
 have h5:(0:Int)≤(q:Int)∧(q:Int)≤(m:Int):=by omega
 have h6:(0:Int)≤(m:Int)∧(m:Int)≤(cap:Int):=by omega
 exact ⟨.slice (if m=p then some ⟨b,0,none⟩ else some (Addr.add ⟨b,0,none⟩ (p*sz))) (q-p) (m-p),by simp [execOp,Instr.sliceAt,Instr.slice,Instr.sliceBounds,Instr.sliceBound,asIntOf,hS.eval e1,hS.eval e2,hS.eval e3,hS.eval e4,ht.1,ht.2,h1,h2,h3,h4,h5,h6]⟩
theorem Zss (hS:St K w0 v0 σ ℓ v a w) {t e:TypeId} {sz b n cap p q:Nat} {x lo hi:Operand} {k k2:IntKind} (ht:ZDb P t e sz) (e1:ev σ x=some (.slice (some ⟨b,0,none⟩) n cap)) (e2:ev σ lo=some (.int k (p:Int))) (e3:ev σ hi=some (.int k2 (q:Int))) (h1:p≤q) (h2:q≤cap) (hc:p<cap) :
  (execOp a.eval ⟨d,.slice t x (some lo) (some hi) none,ty,pos,aft,g⟩).run P w = .ok (.value (.slice (some ⟨b,p*sz,none⟩) (q-p) (cap-p))) w:=by
 have h4:(0:Int)≤(p:Int)∧(p:Int)≤(q:Int):=by omega
 have h5:(0:Int)≤(q:Int)∧(q:Int)≤(cap:Int):=by omega
 have h6:¬ cap=p:=by omega
 simp [execOp,Instr.sliceAt,Instr.slice,Instr.sliceBounds,Instr.sliceBound,asIntOf,hS.eval e1,hS.eval e2,hS.eval e3,ht.1,ht.2,h1,h2,h4,h5,h6,Zpa]
theorem Zqr {t e ty:TypeId} {sz bytes:Nat} {z:Value} (E:Elem P t e sz bytes z) (hS:St K w0 v0 σ ℓ v a w) {i n cap b:Nat} {cs:List Value} (hi:ℓ[i]? = some (.own (some b) e sz n cap cs))
  {q m c:Nat} {ad:Addr} {news:List Value} (hl:news.length=m*sz) (hnews:∀ j u,news[j]? = some u→w.cell? (ad.add j)=some u) (hp:news.all plain=true) (hq:q+m≤n) :
  ∃ w',(Builtin.append_ #[t,t] ty #[.slice (some ⟨b,0,none⟩) q cap,.slice (some ad) m c]).run P w = .ok (.slice (some ⟨b,0,none⟩) (q+m) cap) w' ∧
   St K w0 v0 σ (ℓ.set i (.own (some b) e sz n cap (cs.take (q*sz)++news++cs.drop (q*sz+news.length)))) v a w':=by
 obtain ⟨inf,hinf,hz,hs,hby⟩:=info_parts E.info;subst hs;obtain ⟨hcl,cur,hg,hnc,hcx,hcs,htake⟩:=(hS.loc _ (List.mem_of_getElem? hi)).1;have h1:q*inf.size+news.length≤n*inf.size:=by rw [hl,← Nat.add_mul];exact Nat.mul_le_mul_right _ hq
 have h2:n*inf.size≤cap*inf.size:=Nat.mul_le_mul_right _ hnc;have hcl2:cur.toList.length=cap*inf.size:=by simpa using hcs
 have hr:=run_append_room (P:=P) w t ty e inf E.ty hinf b q cap cur hg ad m c news hl hnews (ZEj hp) (by omega) (by omega);refine ⟨_,hr,hS.setRow hi rfl rfl ⟨?_,_,setRow_heap w b cur _ e _ hg,hnc,hcx,?_,?_⟩⟩
 ·simp;omega
 ·simp;omega
 ·show List.take (n*inf.size) (_++_++_)=_;rw [Zfk _ _ _ _ h1 (by omega),htake]
theorem Z6u {t e ty:TypeId} {sz bytes:Nat} {z:Value} (E:Elem P t e sz bytes z) (hS:St K w0 v0 σ ℓ v a w) {i n cap b:Nat} {cs:List Value} (hi:ℓ[i]? = some (.own (some b) e sz n cap cs)) {p c:Nat} (hp:p+1≤n) (hz1:∀ x ∈ (Builtin.zeroCells z.cells 1).toList,x.oneCell'=true) :
  ∃ w' zc,zc.length=sz∧(∀ ty,(Builtin.clear_ #[t] ty #[.slice (some ⟨b,p*sz,none⟩) 1 c]).run P w = .ok (.tuple #[]) w') ∧
   St K w0 v0 σ (ℓ.set i (.own (some b) e sz n cap (cs.take (p*sz)++zc++cs.drop (p*sz+zc.length)))) v a w':=by
 obtain ⟨inf,hinf,hz,hs,hby⟩:=info_parts E.info;obtain ⟨hcl,cur,hg,hnc,hcx,hcs,htake⟩:=(hS.loc _ (List.mem_of_getElem? hi)).1;have hzl:(Builtin.zeroCells z.cells 1).toList.length=sz:=by
  have:=size_zeroCells z.cells 1;rw [E.cells] at this
  simpa using this
 have h1:p*sz+sz≤n*sz:=by
  have:=Nat.mul_le_mul_right sz hp;rw [Nat.add_mul,Nat.one_mul] at this;exact this
 have h2:n*sz≤cap*sz:=Nat.mul_le_mul_right _ hnc;have hcl2:cur.toList.length=cap*sz:=by simpa using hcs
 have hst:=run_storeCells_at P b (p*sz) e (Builtin.zeroCells z.cells 1).toList 0 cur w hg (by rw [hzl];omega) hz1;have hzv:∀ w:World,(zeroValue e).run P w = .ok z w:=fun w=>by simp [zeroValue,typeInfo,hinf,hz]
 refine ⟨_,(Builtin.zeroCells z.cells 1).toList,hzl,fun ty=>?_,hS.setRow hi rfl rfl (c:=(cur.toList.take (p*sz)++(Builtin.zeroCells z.cells 1).toList++cur.toList.drop (p*sz+(Builtin.zeroCells z.cells 1).toList.length)).toArray) ⟨?_,_,setRow_heap w b cur _ e _ hg,hnc,hcx,?_,?_⟩⟩
 ·simp at hst;simp [Builtin.clear_,run_underlying E.ty,hzv,hst]
 ·simp at hzl ⊢;omega
 ·simp at hzl ⊢;omega
 ·show List.take (n*sz) (_++_++_)=_;rw [Zfk _ _ _ _ (by rw [hzl];exact h1) (by omega),htake]
theorem ZAu (hS:St K w0 v0 σ ℓ v a w) {t:TypeId} {x:Operand} {p r:Value} {w':World} (e:ev σ x=some p) (h:(Builtin.clear_ #[t] ty #[p]).run P w = .ok r w') :
  (execOp a.eval ⟨d,.call ⟨.builtin .clear,#[x],#[t]⟩,ty,pos,aft,g⟩).run P w = .ok (.value r) w':=by
 simp [execOp,resolve,invoke,builtin,hS.eval e,h]
theorem ZGq {ops:Array Oper} {Q:Exit→Act→World→Prop} {rest:List Oper} {o:Oper} {x:Value} {w':World} (hw:Region.wanted o (yielded ops a.tmps)=true) (hd:o.dst=none) (hrun:(execOp a.eval o).run P w = .ok (.value x) w') (h:wpList P ops Q rest a w'):wpList P ops Q (o :: rest) a w :=
 ZQc hw (ZWe hrun (by rw [hd];exact h))
theorem St.narrow (h:St K w0 v0 σ ℓ v a w) {i b n m cap sz:Nat} {T:TypeId} {cs:List Value} (hi:ℓ[i]? = some (.own (some b) T sz n cap cs)) (hm:m≤n):St K w0 v0 σ (ℓ.set i (.own (some b) T sz m cap (cs.take (m*sz)))) v a w:=by
 obtain ⟨hcl,cur,hg,hnc,hcx,hcs,htake⟩:=(h.loc _ (List.mem_of_getElem? hi)).1;have h1:m*sz≤n*sz:=Nat.mul_le_mul_right _ hm;refine h.setSame hi rfl ⟨?_,cur,hg,by omega,hcx,hcs,?_⟩
 ·rw [List.length_take];omega
 ·rw [← htake,List.take_take,Nat.min_eq_left h1]
end
theorem Znp {cs zc:List Value} {sz i n:Nat} (hc:cs.length=n*sz) (hi:i<n) (hz:zc.length=sz) :
  (((cs.take (i*sz)++cs.drop ((i+1)*sz)++cs.drop (i*sz+(cs.drop ((i+1)*sz)).length)).take ((n-1)*sz)++zc++(cs.take (i*sz)++cs.drop ((i+1)*sz)++cs.drop (i*sz+(cs.drop ((i+1)*sz)).length)).drop ((n-1)*sz+zc.length)).take ((n-1)*sz))=cs.take (i*sz)++cs.drop ((i+1)*sz):=by
 have h1:i*sz≤n*sz:=Nat.mul_le_mul_right _ (by omega);have h2:(i+1)*sz≤n*sz:=Nat.mul_le_mul_right _ (by omega);have h3:(i+1)*sz=i*sz+sz:=by rw [Nat.add_mul,Nat.one_mul]
 have h4:(n-1)*sz=n*sz-sz:=by rw [Nat.sub_mul,Nat.one_mul]
 have hl:(cs.take (i*sz)++cs.drop ((i+1)*sz)).length=(n-1)*sz:=by
  rw [List.length_append,List.length_take,List.length_drop];omega
 rw [List.append_assoc (List.take _ _) zc,List.take_append_of_le_length (by rw [List.length_take,List.length_append,hl];omega),List.take_take,Nat.min_self,List.take_append_of_le_length (by rw [hl];omega),List.take_of_length_le (by rw [hl];omega)]
end Go.Eng
namespace Go.Eng
open Go.Proofs Go.RowKit
set_option maxRecDepth 100000
theorem Zmp:Elem Tryz.prog 100 3 ((Zf .i64)).n 8 (Value.int IntKind.i64 0):=⟨Tryz.underlying100,by kernel_rfl,rfl,by decide⟩
theorem Zzf:ZDb Tryz.prog 100 3 ((Zf .i64)).n:=⟨fun _=>by kernel_rfl,fun _=>by kernel_rfl⟩
theorem ZQx:Tryz.prog.follows .mixedOrders=true:=by kernel_rfl
noncomputable def ZRm:FuncId×ConD:=(140,⟨3,.int .i64,fun l i j=>ZZc l i j⟩)
theorem Z7A:Zgh Tryz.prog ZRm.1 ZRm.2:=fun w v ob n cap cs l i0 j0 z hv hh hnv hA hn hi hj hz=>by
 have hz:ZZc (show List Int from l) i0 j0=some z:=hz
 obtain ⟨i,rfl,rfl,hin,rfl⟩:=Zvp hz
 have hA:((Zf .i64)).rels v cs (show List Int from l):=hA
 have hin:i<n:=by rw [hn];exact hin
 have hcs:cs.length=n*((Zf .i64)).n:=by rw [hn];exact Zkd hA
 refine ⟨fun _ _=>by kernel_rfl,?_⟩
 refine Zpq (K:=33) (args:=[.slice (mkA ob) n cap,.int .i64 (i:Int),.int .i64 ((i+1:Nat):Int)]) hv hh hnv Tryz.func140 rfl rfl zl fun fa hS=>?_
 obtain ⟨b,rfl⟩:=Znd hS (j:=0) rfl (by omega)
 obtain ⟨_,cur,hg,hnc,hcx,hcu,htk⟩:=(hS.loc _ (List.mem_of_getElem? (i:=0) rfl)).1
 unfold maxLen at hcx
 refine sr ?_
 refine mw hS rfl fun fa hS=>?_
 refine oe ?_
 refine sr ?_
 refine mv hS rfl fun fa hS=>?_
 refine mv hS rfl fun fa hS=>?_
 refine mv hS rfl fun fa hS=>?_
 refine mv hS rfl fun fa hS=>?_
 refine ov hS rfl (ZRb hS rfl rfl Zzf) fun fa hS=>?_
 have h3 := @ZYq _ _ _ _ _ _ _ _ _ (some 13) 100 "" #[] none hS 100 3 ((Zf .i64)).n b n cap i (i + 1) n (.tmp 8) (.tmp 9) (.tmp 10) (.tmp 12) .i64 .i64 .i64 Zzf rfl rfl rfl rfl (by omega) (by omega) hnc
 obtain ⟨y3,h3⟩:=h3
 refine ov hS rfl h3 fun fa hS=>?_
 refine oe ?_
 refine wp_seq_k fun N1 hN1=>?_
 refine sr ?_
 refine mv hS rfl fun fa hS=>?_
 refine mv hS rfl fun fa hS=>?_
 refine ov hS rfl (ZD hS rfl rfl Z8g) fun fa hS=>?_
 refine oe ?_
 refine ZOa hS rfl (by simp only [beq_eq_false_iff_ne,ne_eq];omega) ?_
 refine wp_skip ?_
 refine Zp (hN1 _ _ ?_)
 refine sr ?_
 refine mv hS rfl fun fa hS=>?_
 refine ov hS rfl (ZRb hS rfl rfl Zzf) fun fa hS=>?_
 refine mw hS rfl fun fa hS=>?_
 refine oe ?_
 refine wp_seq_k fun N2 hN2=>?_
 refine Z3g (fl:=#[true,true,true,true,true,true,false,false]) ZQx (by kernel_rfl) hS ?_
 intro ops hops hF wo hS
 refine rf hops hF 0 rfl (by kernel_rfl) rfl hS (ZJ hS rfl) fun fa hS=>?_
 refine rf hops hF 1 rfl (by kernel_rfl) rfl hS (ZJ hS rfl) fun fa hS=>?_
 refine rf hops hF 2 rfl (by kernel_rfl) rfl hS (ZXl hS Zzf rfl rfl (by omega) (by omega)) fun fa hS=>?_
 refine rf hops hF 3 rfl (by kernel_rfl) rfl hS (ZJ hS rfl) fun fa hS=>?_
 refine rf hops hF 4 rfl (by kernel_rfl) rfl hS (ZJ hS rfl) fun fa hS=>?_
 obtain ⟨ad,had,hsrc⟩:∃ ad:Addr,(if cap=i+1 then mkA (some b) else (mkA (some b)).map (·.add ((i+1)*((Zf .i64)).n)))=some ad∧∀ j u,(cs.drop ((i+1)*((Zf .i64)).n))[j]? = some u→wo.cell? (ad.add j)=some u:=by
  by_cases h:cap=i+1
  ·refine ⟨⟨b,0,none⟩,by rw [if_pos h];rfl,fun j u hu=>?_⟩;have:cs.drop ((i+1)*((Zf .i64)).n)=[]:=List.drop_eq_nil_of_le (by rw [hcs];exact Nat.mul_le_mul_right _ (by omega));rw [this] at hu;simp at hu
  ·refine ⟨(⟨b,0,none⟩:Addr).add ((i+1)*((Zf .i64)).n),by rw [if_neg h];rfl,fun j u hu=>?_⟩;have:=Zqh hS (j:=0) rfl ((i+1)*((Zf .i64)).n+j) u (by rw [List.getElem?_drop] at hu;exact hu);rw [show ((⟨b,0,none⟩:Addr).add ((i+1)*((Zf .i64)).n)).add j=(⟨b,0,none⟩:Addr).add ((i+1)*((Zf .i64)).n+j) by simp only [Zpa,Nat.add_assoc]];exact this
 refine rf hops hF 5 rfl (by kernel_rfl) rfl hS (ZGr hS Zzf rfl rfl (by omega)) fun fa hS=>?_;rw [had] at hS;have hdl:(cs.drop ((i+1)*((Zf .i64)).n)).length=(n-(i+1))*((Zf .i64)).n:=by rw [List.length_drop,hcs,Nat.sub_mul]
 obtain ⟨wo',hr,hS'⟩:=Zqr (t:=100) (ty:=100) Zmp hS (i:=0) rfl (q:=i) (m:=n-(i+1)) (c:=cap-(i+1)) (ad:=ad) (news:=cs.drop ((i+1)*((Zf .i64)).n)) hdl hsrc (by rw [List.all_eq_true];intro y hy;exact List.all_eq_true.1 (ZRg hA) y (List.mem_of_mem_drop hy)) (by omega);rw [show i+(n-(i+1))=n-1 by omega] at hr;refine ZPe hops hF 6 (by kernel_rfl) ?_;refine Zsn [2,5,0,1,3,4] [] hops rfl (by kernel_rfl) wn rfl zl (ZPp hS rfl rfl hr) hS' fun fa hS=>?_;refine ⟨Zsc,?_⟩;refine ZPe hops hF 7 (by kernel_rfl) ?_;refine nv [0,1,2,3,4,5,6] [] hops rfl (by kernel_rfl) rfl hS (ZLd hS rfl) fun fa hS=>?_;refine ⟨Zsc,?_⟩;refine Zck hops hF (by kernel_rfl) ?_;refine Zp (hN2 _ _ ?_);refine sr ?_;refine mv hS rfl fun fa hS=>?_;refine mv hS rfl fun fa hS=>?_;refine ov hS rfl (ZRb hS rfl rfl Zzf) fun fa hS=>?_;refine mv hS rfl fun fa hS=>?_;refine ov hS rfl (Zss hS Zzf rfl rfl rfl (by omega) (by omega) (by omega)) fun fa hS=>?_;obtain ⟨wo2,zc,hzl,hr,hS'⟩:=Z6u (t:=100) (ty:=100) Zmp hS (i:=0) rfl (p:=n-1) (c:=cap-(n-1)) (by omega) (List.all_eq_true.1 (by kernel_rfl));have hn1:n-(n-1)=1:=by omega
 rw [hn1] at hS hS';refine ZGq wn rfl (ZAu hS rfl (hr _)) ?_;refine oe ?_;have hS:=hS'.narrow (i:=0) rfl (m:=n-1) (by omega);refine sr ?_;refine mv hS rfl fun fa hS=>?_;refine mw hS rfl fun fa hS=>?_;refine oe ?_;refine wp_ret ?_;refine ZAq hS (i:=0) rfl (Z3c rfl (Z3a hS rfl)) ?_ (show n-1=(List.take i l++List.drop (i+1) l).length by rw [List.length_append,List.length_take,List.length_drop,← hn];omega);rw [Znp hcs hin hzl];exact ZQb (Zcg i (ZO hS.vst.le hA)) (Zsf (i+1) (ZO hS.vst.le hA))
set_option maxRecDepth 100000
theorem Zzt:Elem Tryz.prog 31 59 (Z6).n 56 (Value.agg #[Value.bool false,Value.slice none 0 0,Value.slice none 0 0]):=⟨Tryz.underlying31,by kernel_rfl,rfl,by decide⟩
theorem Zkg:ZDb Tryz.prog 31 59 (Z6).n:=⟨fun _=>by kernel_rfl,fun _=>by kernel_rfl⟩
theorem Zsy:Tryz.prog.follows .mixedOrders=true:=by kernel_rfl
noncomputable def Z2n:FuncId×ConD:=(141,⟨59,.leaf 3,fun l i j=>ZZc l i j⟩)
theorem ZRz:Zgh Tryz.prog Z2n.1 Z2n.2:=fun w v ob n cap cs l i0 j0 z hv hh hnv hA hn hi hj hz=>by
 have hz:ZZc (show List Rat from l) i0 j0=some z:=hz
 obtain ⟨i,rfl,rfl,hin,rfl⟩:=Zvp hz
 have hA:(Z6).rels v cs (show List Rat from l):=hA
 have hin:i<n:=by rw [hn];exact hin
 have hcs:cs.length=n*(Z6).n:=by rw [hn];exact Zkd hA
 refine ⟨fun _ _=>by kernel_rfl,?_⟩
 refine Zpq (K:=33) (args:=[.slice (mkA ob) n cap,.int .i64 (i:Int),.int .i64 ((i+1:Nat):Int)]) hv hh hnv Tryz.func141 rfl rfl zl fun fa hS=>?_
 obtain ⟨b,rfl⟩:=Znd hS (j:=0) rfl (by omega)
 obtain ⟨_,cur,hg,hnc,hcx,hcu,htk⟩:=(hS.loc _ (List.mem_of_getElem? (i:=0) rfl)).1
 unfold maxLen at hcx
 refine sr ?_
 refine mw hS rfl fun fa hS=>?_
 refine oe ?_
 refine sr ?_
 refine mv hS rfl fun fa hS=>?_
 refine mv hS rfl fun fa hS=>?_
 refine mv hS rfl fun fa hS=>?_
 refine mv hS rfl fun fa hS=>?_
 refine ov hS rfl (ZRb hS rfl rfl Zkg) fun fa hS=>?_
 have h3 := @ZYq _ _ _ _ _ _ _ _ _ (some 13) 31 "" #[] none hS 31 59 (Z6).n b n cap i (i + 1) n (.tmp 8) (.tmp 9) (.tmp 10) (.tmp 12) .i64 .i64 .i64 Zkg rfl rfl rfl rfl (by omega) (by omega) hnc
 obtain ⟨y3,h3⟩:=h3
 refine ov hS rfl h3 fun fa hS=>?_
 refine oe ?_
 refine wp_seq_k fun N1 hN1=>?_
 refine sr ?_
 refine mv hS rfl fun fa hS=>?_
 refine mv hS rfl fun fa hS=>?_
 refine ov hS rfl (ZD hS rfl rfl Z8g) fun fa hS=>?_
 refine oe ?_
 refine ZOa hS rfl (by simp only [beq_eq_false_iff_ne,ne_eq];omega) ?_
 refine wp_skip ?_
 refine Zp (hN1 _ _ ?_)
 refine sr ?_
 refine mv hS rfl fun fa hS=>?_
 refine ov hS rfl (ZRb hS rfl rfl Zkg) fun fa hS=>?_
 refine mw hS rfl fun fa hS=>?_
 refine oe ?_
 refine wp_seq_k fun N2 hN2=>?_
 refine Z3g (fl:=#[true,true,true,true,true,true,false,false]) Zsy (by kernel_rfl) hS ?_
 intro ops hops hF wo hS
 refine rf hops hF 0 rfl (by kernel_rfl) rfl hS (ZJ hS rfl) fun fa hS=>?_
 refine rf hops hF 1 rfl (by kernel_rfl) rfl hS (ZJ hS rfl) fun fa hS=>?_
 refine rf hops hF 2 rfl (by kernel_rfl) rfl hS (ZXl hS Zkg rfl rfl (by omega) (by omega)) fun fa hS=>?_
 refine rf hops hF 3 rfl (by kernel_rfl) rfl hS (ZJ hS rfl) fun fa hS=>?_
 refine rf hops hF 4 rfl (by kernel_rfl) rfl hS (ZJ hS rfl) fun fa hS=>?_
 obtain ⟨ad,had,hsrc⟩:∃ ad:Addr,(if cap=i+1 then mkA (some b) else (mkA (some b)).map (·.add ((i+1)*(Z6).n)))=some ad∧∀ j u,(cs.drop ((i+1)*(Z6).n))[j]? = some u→wo.cell? (ad.add j)=some u:=by
  by_cases h:cap=i+1
  ·refine ⟨⟨b,0,none⟩,by rw [if_pos h];rfl,fun j u hu=>?_⟩;have:cs.drop ((i+1)*(Z6).n)=[]:=List.drop_eq_nil_of_le (by rw [hcs];exact Nat.mul_le_mul_right _ (by omega));rw [this] at hu;simp at hu
  ·refine ⟨(⟨b,0,none⟩:Addr).add ((i+1)*(Z6).n),by rw [if_neg h];rfl,fun j u hu=>?_⟩;have:=Zqh hS (j:=0) rfl ((i+1)*(Z6).n+j) u (by rw [List.getElem?_drop] at hu;exact hu);rw [show ((⟨b,0,none⟩:Addr).add ((i+1)*(Z6).n)).add j=(⟨b,0,none⟩:Addr).add ((i+1)*(Z6).n+j) by simp only [Zpa,Nat.add_assoc]];exact this
 refine rf hops hF 5 rfl (by kernel_rfl) rfl hS (ZGr hS Zkg rfl rfl (by omega)) fun fa hS=>?_;rw [had] at hS;have hdl:(cs.drop ((i+1)*(Z6).n)).length=(n-(i+1))*(Z6).n:=by rw [List.length_drop,hcs,Nat.sub_mul]
 obtain ⟨wo',hr,hS'⟩:=Zqr (t:=31) (ty:=31) Zzt hS (i:=0) rfl (q:=i) (m:=n-(i+1)) (c:=cap-(i+1)) (ad:=ad) (news:=cs.drop ((i+1)*(Z6).n)) hdl hsrc (by rw [List.all_eq_true];intro y hy;exact List.all_eq_true.1 (ZRg hA) y (List.mem_of_mem_drop hy)) (by omega);rw [show i+(n-(i+1))=n-1 by omega] at hr;refine ZPe hops hF 6 (by kernel_rfl) ?_;refine Zsn [2,5,0,1,3,4] [] hops rfl (by kernel_rfl) wn rfl zl (ZPp hS rfl rfl hr) hS' fun fa hS=>?_;refine ⟨Zsc,?_⟩;refine ZPe hops hF 7 (by kernel_rfl) ?_;refine nv [0,1,2,3,4,5,6] [] hops rfl (by kernel_rfl) rfl hS (ZLd hS rfl) fun fa hS=>?_;refine ⟨Zsc,?_⟩;refine Zck hops hF (by kernel_rfl) ?_;refine Zp (hN2 _ _ ?_);refine sr ?_;refine mv hS rfl fun fa hS=>?_;refine mv hS rfl fun fa hS=>?_;refine ov hS rfl (ZRb hS rfl rfl Zkg) fun fa hS=>?_;refine mv hS rfl fun fa hS=>?_;refine ov hS rfl (Zss hS Zkg rfl rfl rfl (by omega) (by omega) (by omega)) fun fa hS=>?_;obtain ⟨wo2,zc,hzl,hr,hS'⟩:=Z6u (t:=31) (ty:=31) Zzt hS (i:=0) rfl (p:=n-1) (c:=cap-(n-1)) (by omega) (List.all_eq_true.1 (by kernel_rfl));have hn1:n-(n-1)=1:=by omega
 rw [hn1] at hS hS';refine ZGq wn rfl (ZAu hS rfl (hr _)) ?_;refine oe ?_;have hS:=hS'.narrow (i:=0) rfl (m:=n-1) (by omega);refine sr ?_;refine mv hS rfl fun fa hS=>?_;refine mw hS rfl fun fa hS=>?_;refine oe ?_;refine wp_ret ?_;refine ZAq hS (i:=0) rfl (Z3c rfl (Z3a hS rfl)) ?_ (show n-1=(List.take i l++List.drop (i+1) l).length by rw [List.length_append,List.length_take,List.length_drop,← hn];omega);rw [Znp hcs hin hzl];exact ZQb (Zcg i (ZO hS.vst.le hA)) (Zsf (i+1) (ZO hS.vst.le hA))
end Go.Eng
set_option maxRecDepth 100000
set_option maxHeartbeats 4000000
namespace Go.Eng
open Go.Proofs Go.RowKit
noncomputable def Zrv:FuncId×ConB:=(109,⟨176,(.agg (.cons (.mat 31 59 (.leaf 3)) (.cons (.own 59 (.leaf 3)) (.cons (.own 59 (.leaf 3)) (.cons (.dat (.leaf 3)) (.cons (.own 3 (.int .i64)) (.one (.own 3 (.int .i64))))))))),[.pair (.slice (.slice (.leaf 3))) (.pair (.slice (.leaf 3)) (.slice (.leaf 3)))],[.slice (.leaf 3),.bool],fun z x=>ZUj z x⟩)
theorem ZqA : KB Zrv := ZFg (C := cf1 [Zih, Zoe, ZHh, ZMj, ZKg, ZSe, Z4f] [100182] [Zxf] [((59, "Add"), 203), ((59, "Cmp"), 204), ((59, "Mul"), 206), ((59, "Sign"), 211), ((59, "Sub"), 212), ((59, "Zero"), 25)] [] [Z1m, Zfu, Zro] [ZRm, Z2n]) (.n (.n (.n (.two (.n (.f (.l [0, 3, 6, 7, 8, 34, 35] [] [.s 9 (.dat (.int .i64)), .s 36 (.dat (.int .i64))] 0 [0, 3, 6, 7, 8] [] [.s 9 (.dat (.int .i64))] (.f (.n (.n (.f (.f (.n (.two (.j [0, 3, 6, 7, 8, 9, 10, 34, 35, 36] [] [.s 61 (.dat .bool)] .no) (.j [0, 3, 6, 7, 8, 34, 35, 36] [] [.s 9 (.dat (.int .i64))] .no))))))))))) (.n (.two (.n (.f (.l [0, 3, 6, 7, 8, 9, 70] [] [.s 71 (.dat (.int .i64)), .l (.sl 69) (.mat 31 59 (.leaf 3))] 2 [0, 3, 6, 7, 8, 9] [] [.l (.sl 69) (.mat 31 59 (.leaf 3))] .no))) (.n (.n (.n (.n (.n (.two (.n (.n (.j [0, 3, 8] [.fld (.sl 0) 0, .fld (.sl 0) 1, .fld (.sl 0) 2, .fld (.sl 0) 6, .fld (.sl 0) 7] [.l (.sl 0) (.box 176 (.agg (.cons (.mat 31 59 (.leaf 3)) (.cons (.own 59 (.leaf 3)) (.cons (.own 59 (.leaf 3)) (.cons (.dat (.leaf 3)) (.cons (.own 3 (.int .i64)) (.one (.own 3 (.int .i64))))))))))] .no))) (.n (.n (.two (.n (.f (.l [0, 3, 14, 167] [] [.s 168 (.dat (.int .i64)), .l (.sl 166) (.mat 31 59 (.leaf 3))] 4 [0, 3] [] [.l (.sl 166) (.mat 31 59 (.leaf 3))] .no))) (.n (.f (.n (.f (.l [0, 203, 204] [.fld (.sl 0) 0, .fld (.sl 0) 1, .fld (.sl 0) 6, .fld (.sl 0) 7, .fld (.sl 0) 2] [.s 205 (.dat (.int .i64)), .l (.sl 0) (.box 176 (.agg (.cons (.mat 31 59 (.leaf 3)) (.cons (.own 59 (.leaf 3)) (.cons (.own 59 (.leaf 3)) (.cons (.dat (.leaf 3)) (.cons (.own 3 (.int .i64)) (.one (.own 3 (.int .i64))))))))))] 6 [] [.fld (.sl 0) 0, .fld (.sl 0) 1, .fld (.sl 0) 6, .fld (.sl 0) 7, .fld (.sl 0) 2] [.l (.sl 0) (.box 176 (.agg (.cons (.mat 31 59 (.leaf 3)) (.cons (.own 59 (.leaf 3)) (.cons (.own 59 (.leaf 3)) (.cons (.dat (.leaf 3)) (.cons (.own 3 (.int .i64)) (.one (.own 3 (.int .i64))))))))))] (.f (.n (.n (.f (.j [0, 203, 204, 205] [.fld (.sl 0) 0, .fld (.sl 0) 1, .fld (.sl 0) 2, .fld (.sl 0) 6, .fld (.sl 0) 7] [.l (.sl 0) (.box 176 (.agg (.cons (.mat 31 59 (.leaf 3)) (.cons (.own 59 (.leaf 3)) (.cons (.own 59 (.leaf 3)) (.cons (.dat (.leaf 3)) (.cons (.own 3 (.int .i64)) (.one (.own 3 (.int .i64))))))))))] (.f (.n (.n (.n (.n (.n (.f (.l [0, 17, 203, 204, 205, 265, 266] [] [.s 267 (.dat (.int .i64)), .l (.fld (.sl 0) 2) (.own 59 (.leaf 3))] 8 [0, 203, 204, 205] [] [.l (.fld (.sl 0) 2) (.own 59 (.leaf 3))] .no))))))))))))))))))))))))))))))))) Tryz.func109 [(53, Tryz.f53, .no), (116, Tryz.f116, .r [] [] [.s 1000 (.dat (.int .i64))] (.n (.f (.n (.f (.cut ⟨⟨[0, 1, 7], [], [.s 8 (.dat (.int .i64))]⟩, [(.exit 0, ⟨[], [], []⟩), (.ret, ⟨[], [], [.s 1000 (.dat (.int .i64))]⟩)]⟩ .no)))))), (126, Tryz.f126, .r [] [] [.s 1000 (.dat (.int .i64))] (.n (.f (.n (.f (.cut ⟨⟨[0, 1, 7], [], [.s 8 (.dat (.int .i64))]⟩, [(.exit 0, ⟨[], [], []⟩), (.ret, ⟨[], [], [.s 1000 (.dat (.int .i64))]⟩)]⟩ .no)))))), (139, Tryz.f139, .no)] (fun _ _ => by kernel_rfl) ⟨Zhi, Z2e, Zxi, Zvm, Zai, Zug, Zdh, tr⟩ ⟨ZEi, tr⟩ ⟨Zrk, ZEm, ZXh, ZNg, ZQh, ZIj, tr⟩ ⟨⟨Tryz.func53, fun _ _ => by kernel_rfl⟩, ⟨Tryz.func116, fun _ _ => by kernel_rfl⟩, ⟨Tryz.func126, fun _ _ => by kernel_rfl⟩, ⟨Tryz.func139, fun _ _ => by kernel_rfl⟩, tr⟩ tr ⟨ZMt, ZdB, ZQs, tr⟩ ⟨Z7A, ZRz, tr⟩
end Go.Eng
set_option maxRecDepth 100000
set_option maxHeartbeats 4000000
namespace Go.Eng
open Go.Proofs Go.RowKit
noncomputable def ZSm:FuncId×Con:=(77,⟨[.pair (.slice (.slice (.leaf 3))) (.pair (.slice (.leaf 3)) (.slice (.leaf 3)))],[.pair (.int .i64) (.pair (.leaf 3) (.pair (.slice (.leaf 3)) (.pair (.slice (.leaf 3)) (.slice (.leaf 3)))))],fun p=>ZWg p⟩)
theorem ZNt : KQ ZSm := Zh (Zu (C := cf1 [Zoe, Z0p, ZRp, Zse] [] [Zxh, Zxf] [((59, "Neg"), 208)] [Zqo] [Zrv, Z1m] []) (.n (.n (.n (.n (.n (.two (.j [2, 3, 4, 6] [] [.s 5 (.dat (.ptr (.pair (.slice (.slice (.leaf 3))) (.pair (.slice (.leaf 3)) (.pair (.slice (.leaf 3)) (.pair (.leaf 3) (.pair (.slice (.int .i64)) (.slice (.int .i64))))))))), .s 9 (.dat (.int .i64))] .no) (.n (.n (.two (.n (.n (.j [2, 3, 5, 6, 9, 10] [] [.l (.sl 10) (.own 59 (.leaf 3))] .no))) (.f (.n (.f (.l [2, 3, 5, 6, 9, 10, 69, 70] [] [.s 71 (.dat (.int .i64)), .l (.sl 10) (.own 59 (.leaf 3))] 0 [2, 3, 5, 6, 10] [] [.l (.sl 10) (.own 59 (.leaf 3))] (.f (.n (.n (.f (.f (.n (.n (.j [2, 3, 5, 6, 9, 10, 69, 70, 71] [] [.l (.sl 10) (.own 59 (.leaf 3))] .no))))))))))))))))))))) Tryz.func77 [(53, Tryz.f53, .no), (108, Tryz.f108, .n (.n (.two (.n (.f (.l [1, 3, 20] [.fld (.sl 3) 0, .fld (.sl 3) 1, .fld (.sl 3) 2] [.s 21 (.dat (.int .i64)), .l (.sl 3) (.box 176 (.agg (.cons (.mat 31 59 (.leaf 3)) (.cons (.own 59 (.leaf 3)) (.cons (.own 59 (.leaf 3)) (.cons (.dat (.leaf 3)) (.cons (.own 3 (.int .i64)) (.one (.own 3 (.int .i64))))))))))] 0 [1, 3] [.fld (.sl 3) 0, .fld (.sl 3) 1, .fld (.sl 3) 2] [.l (.sl 3) (.box 176 (.agg (.cons (.mat 31 59 (.leaf 3)) (.cons (.own 59 (.leaf 3)) (.cons (.own 59 (.leaf 3)) (.cons (.dat (.leaf 3)) (.cons (.own 3 (.int .i64)) (.one (.own 3 (.int .i64))))))))))] .no))) (.f (.n (.f (.l [1, 3, 37] [.fld (.sl 3) 0, .fld (.sl 3) 1, .fld (.sl 3) 2, .fld (.sl 3) 6, .fld (.sl 3) 7] [.s 38 (.dat (.int .i64)), .l (.sl 3) (.box 176 (.agg (.cons (.mat 31 59 (.leaf 3)) (.cons (.own 59 (.leaf 3)) (.cons (.own 59 (.leaf 3)) (.cons (.dat (.leaf 3)) (.cons (.own 3 (.int .i64)) (.one (.own 3 (.int .i64))))))))))] 2 [3] [.fld (.sl 3) 0, .fld (.sl 3) 1, .fld (.sl 3) 2, .fld (.sl 3) 6, .fld (.sl 3) 7] [.l (.sl 3) (.box 176 (.agg (.cons (.mat 31 59 (.leaf 3)) (.cons (.own 59 (.leaf 3)) (.cons (.own 59 (.leaf 3)) (.cons (.dat (.leaf 3)) (.cons (.own 3 (.int .i64)) (.one (.own 3 (.int .i64))))))))))] .no)))))))] (fun _ => by kernel_rfl) ⟨Z2e, Zzz, ZMz, Zbf, tr⟩ ⟨Z1j, ZEi, tr⟩ ⟨Z7f, tr⟩ ⟨⟨Tryz.func53, fun _ _ => by kernel_rfl⟩, ⟨Tryz.func108, fun _ _ => by kernel_rfl⟩, tr⟩ ⟨ZHr, tr⟩ ⟨ZqA, ZMt, tr⟩)
end Go.Eng
set_option maxRecDepth 100000
set_option maxHeartbeats 4000000
namespace Go.Eng
open Go.Proofs Go.RowKit
noncomputable def Z6p:FuncId×Con:=(32,⟨[.pair (.slice (.slice (.leaf 3))) (.pair (.slice (.leaf 3)) (.slice (.leaf 3)))],[.pair (.int .i64) (.pair (.leaf 3) (.pair (.slice (.leaf 3)) (.pair (.slice (.leaf 3)) (.slice (.leaf 3))))),.int .i64],fun p=>ZCt p⟩)
theorem Zhy:KQ Z6p:=Zh (Zu (C:=cf0 [ZCo,ZSm] [] [] []) .no Tryz.func32 [] (fun _=>by kernel_rfl) ⟨ZWq,ZNt,tr⟩)
end Go.Eng
set_option maxRecDepth 100000
set_option maxHeartbeats 4000000
namespace Go.Eng
open Go.Proofs Go.RowKit
noncomputable def Zgg:FuncId×Con:=(66,⟨[.slice (.slice (.leaf 3))],[.int .i64],fun p=>ZMc p⟩)
theorem ZCh:KQ Zgg:=Zh (Zu (C:=cf0 [] [] [] []) .no Tryz.func66 [] (fun _=>by kernel_rfl))
end Go.Eng
set_option maxRecDepth 100000
set_option maxHeartbeats 4000000
namespace Go.Eng
open Go.Proofs Go.RowKit
noncomputable def Z4j:FuncId×Con:=(84,⟨[.slice (.slice (.leaf 3))],[.bool],fun p=>Zjg p⟩)
theorem Z6n:KQ Z4j:=Zh (Zu (C:=cf0 [Zgg] [] [] []) (.n (.n (.f (.j [] [] [.s 2 (.dat .bool)] .no)))) Tryz.func84 [(78,Tryz.f78,.no),(113,Tryz.f113,.r [] [] [.s 1000 (.dat (.int .i64))] (.n (.f (.n (.f (.cut ⟨⟨[0,1,7],[],[.s 8 (.dat (.int .i64))]⟩,[(.exit 0,⟨[],[],[]⟩),(.ret,⟨[],[],[.s 1000 (.dat (.int .i64))]⟩)]⟩ .no)))))),(115,Tryz.f115,.no)] (fun _=>by kernel_rfl) ⟨ZCh,tr⟩ tr tr ⟨⟨Tryz.func78,fun _ _=>by kernel_rfl⟩,⟨Tryz.func113,fun _ _=>by kernel_rfl⟩,⟨Tryz.func115,fun _ _=>by kernel_rfl⟩,tr⟩)
end Go.Eng
set_option maxRecDepth 100000
set_option maxHeartbeats 4000000
namespace Go.Eng
open Go.Proofs Go.RowKit
noncomputable def Zan:FuncId×Con:=(85,⟨[.slice (.slice (.leaf 3))],[.slice (.slice (.leaf 3)),.slice (.int .i64),.leaf 3],fun p=>Z8l p⟩)
theorem Z2r : KQ Zan := Zh (Zu (C := cf0 [Zih, Zoe, ZUk, ZKg, Zse, Z4f] [8] [Zxh] [((59, "Div"), 205), ((59, "Mul"), 206), ((59, "Neg"), 208), ((59, "Sub"), 212), ((59, "Zero"), 25)]) (.n (.n (.n (.n (.f (.n (.f (.l [0, 4, 6, 19] [] [.s 5 (.own 3 (.int .i64)), .s 20 (.dat (.int .i64)), .l (.sl 0) (.mat 31 59 (.leaf 3)), .l (.sl 6) (.box 59 (.dat (.leaf 3)))] 0 [0, 4, 6] [] [.s 5 (.own 3 (.int .i64)), .l (.sl 0) (.mat 31 59 (.leaf 3)), .l (.sl 6) (.box 59 (.dat (.leaf 3)))] (.f (.n (.n (.f (.j [0, 4, 6, 19, 20] [] [.s 5 (.own 3 (.int .i64)), .l (.sl 0) (.mat 31 59 (.leaf 3)), .l (.sl 6) (.box 59 (.dat (.leaf 3)))] (.f (.n (.n (.n (.two (.f (.l [0, 4, 5, 6, 7, 8, 19, 20] [] [.s 9 (.dat (.int .i64))] 2 [0, 4, 5, 6, 7, 8, 19, 20] [] [.s 9 (.dat (.int .i64))] (.f (.f (.f (.j [0, 4, 5, 6, 7, 8, 9, 19, 20] [] [.s 40 (.dat .bool)] .no)))))) (.n (.two (.n (.j [0, 4, 5, 6, 7, 8, 19, 20] [] [.l (.sl 0) (.mat 31 59 (.leaf 3)), .l (.sl 6) (.box 59 (.dat (.leaf 3)))] .no)) (.n (.n (.two (.n (.f (.l [0, 4, 5, 6, 7, 8, 10, 19, 20, 83] [] [.s 84 (.dat (.int .i64)), .l (.sl 0) (.mat 31 59 (.leaf 3))] 4 [0, 4, 5, 6, 7, 8, 19, 20] [] [.l (.sl 0) (.mat 31 59 (.leaf 3))] .no))) (.f (.n (.f (.l [0, 4, 5, 6, 7, 8, 19, 20, 108] [] [.s 109 (.dat (.int .i64)), .l (.sl 0) (.mat 31 59 (.leaf 3))] 6 [0, 4, 5, 6, 7, 19, 20] [] [.l (.sl 0) (.mat 31 59 (.leaf 3))] (.f (.n (.n (.f (.j [0, 4, 5, 6, 7, 8, 19, 20, 108, 109] [] [.l (.sl 0) (.mat 31 59 (.leaf 3))] (.f (.n (.n (.two (.f (.j [0, 4, 5, 6, 7, 8, 12, 13, 19, 20, 108, 109] [] [.s 126 (.dat .bool)] .no)) (.n (.f (.l [0, 4, 5, 6, 7, 8, 12, 13, 19, 20, 108, 109, 131] [] [.s 132 (.dat (.int .i64)), .l (.sl 0) (.mat 31 59 (.leaf 3))] 8 [0, 4, 5, 6, 7, 8, 19, 20, 108, 109] [] [.l (.sl 0) (.mat 31 59 (.leaf 3))] .no))))))))))))))))))))))))))))))))))))))) Tryz.func85 [(66, Tryz.f66, .r [] [] [.s 1000 (.dat (.int .i64))] .no), (81, Tryz.f81, .n (.n (.f (.n (.f (.l [3, 9, 10] [] [.s 11 (.dat (.int .i64)), .l (.sl 3) (.mat 31 59 (.leaf 3))] 0 [3] [] [.l (.sl 3) (.mat 31 59 (.leaf 3))] .no))))))] (fun _ => by kernel_rfl) ⟨Zhi, Z2e, Zoo, Zai, Zbf, Zdh, tr⟩ ⟨Z1j, tr⟩ ⟨ZDo, ZXh, Z7f, ZQh, ZIj, tr⟩ ⟨⟨Tryz.func66, fun _ _ => by kernel_rfl⟩, ⟨Tryz.func81, fun _ _ => by kernel_rfl⟩, tr⟩)
end Go.Eng
set_option maxRecDepth 100000
set_option maxHeartbeats 4000000
namespace Go.Eng
open Go.Proofs Go.RowKit
noncomputable def Zxp:FuncId×Con:=(39,⟨[.slice (.slice (.leaf 3))],[.slice (.slice (.leaf 3)),.slice (.int .i64),.int .i64],fun p=>ZQu p⟩)
theorem ZRx:KQ Zxp:=Zh (Zu (C:=cf0 [Z4j,Zan] [] [] []) .no Tryz.func39 [] (fun _=>by kernel_rfl) ⟨Z6n,Z2r,tr⟩)
end Go.Eng
set_option maxRecDepth 100000
set_option maxHeartbeats 4000000
namespace Go.Eng
open Go.Proofs Go.RowKit
noncomputable def Zju:FuncId×Con:=(116,⟨[.slice (.int .i64),.int .i64],[.int .i64],fun p=>Zup p.1 p.2⟩)
theorem Zkw:KQ Zju:=Zh (Zu (C:=cf0 [] [] [] []) (.n (.f (.n (.cut ⟨⟨[],[],[]⟩,[(.norm,⟨[],[],[]⟩),(.ret,⟨[],[],[.s 1000 (.dat (.int .i64))]⟩)]⟩ (.f (.cut ⟨⟨[0,1,7],[],[.s 8 (.dat (.int .i64))]⟩,[(.ret,⟨[],[],[.s 1000 (.dat (.int .i64))]⟩),(.exit 0,⟨[],[],[]⟩)]⟩ .no)))))) Tryz.func116 [] (fun _=>by kernel_rfl))
end Go.Eng
set_option maxRecDepth 100000
set_option maxHeartbeats 4000000
namespace Go.Eng
open Go.Proofs Go.RowKit
noncomputable def ZIu:FuncId×Con:=(86,⟨[.slice (.int .i64),.int .i64],[.bool],fun p=>ZOs p.1 p.2⟩)
theorem ZRv:KQ ZIu:=Zh (Zu (C:=cf0 [Zju] [] [] []) .no Tryz.func86 [] (fun _=>by kernel_rfl) ⟨Zkw,tr⟩)
end Go.Eng
set_option maxRecDepth 100000
set_option maxHeartbeats 4000000
namespace Go.Eng
open Go.Proofs Go.RowKit
noncomputable def Zbt:FuncId×Con:=(40,⟨[.slice (.slice (.leaf 3))],[.slice (.slice (.leaf 3)),.int .i64],fun p=>Z2t p⟩)
theorem Zux : KQ Zbt := Zh (Zu (C := cf0 [Zgg, Zoe, Z4j, Zan, ZIu, Zse] [] [Zxf] [((59, "Neg"), 208)]) (.n (.n (.n (.n (.f (.n (.f (.l [0, 4, 5, 22] [] [.s 7 (.own 31 (.slice (.leaf 3))), .s 23 (.dat (.int .i64))] 0 [] [] [.s 7 (.own 31 (.slice (.leaf 3)))] (.f (.n (.n (.f (.j [0, 4, 5, 22, 23] [] [.s 7 (.own 31 (.slice (.leaf 3)))] (.f (.n (.n (.n (.n (.f (.n (.f (.l [0, 4, 5, 7, 8, 9, 22, 23, 36, 37] [] [.s 38 (.dat (.int .i64)), .l (.sl 9) (.own 59 (.leaf 3))] 2 [0, 4, 5, 7, 9, 22, 23] [] [.l (.sl 9) (.own 59 (.leaf 3))] .no)))))))))))))))))))))) Tryz.func40 [(53, Tryz.f53, .no)] (fun _ => by kernel_rfl) ⟨ZCh, Z2e, Z6n, Z2r, ZRv, Zbf, tr⟩ ⟨ZEi, tr⟩ ⟨Z7f, tr⟩ ⟨⟨Tryz.func53, fun _ _ => by kernel_rfl⟩, tr⟩)
end Go.Eng
namespace Go.Eng
open Go.Proofs Go.RowKit
theorem Zxw {r:World} {d:Zb} (hv:VIn d r) {D:List Value} {n:Int} (L:Rep.rel (Zf .u64) d D n) {z:(List UInt8)} (H:Zwk n=some z):Ret Tryz.prog 119 #[(Zf .u64).val D] r d (fun y v'=>∃ E,y=Zeb.val E∧Zeb.rel v' E z):=by
 obtain ⟨rfl,M⟩:=L;refine Zej (K:=20) (args:=[.int .u64 n]) hv Tryz.func119 rfl rfl zl fun f S=>?_;unfold Zwk at H;refine sr (mw S rfl fun f S=>oe (sr (Zcv S wn rfl zl (cs:=[.int .u8 0,.int .u8 0,.int .u8 0,.int .u8 0,.int .u8 0,.int .u8 0,.int .u8 0,.int .u8 0,.int .u8 0,.int .u8 0,.int .u8 0,.int .u8 0,.int .u8 0,.int .u8 0,.int .u8 0,.int .u8 0,.int .u8 0,.int .u8 0,.int .u8 0,.int .u8 0]) (ZFo k_zv227) fun s f w S=>?_)));have S:=S.boxOwn 1 20 rfl zl;have N:Rep.rels (Zf .u8) d [.int .u8 0,.int .u8 0,.int .u8 0,.int .u8 0,.int .u8 0,.int .u8 0,.int .u8 0,.int .u8 0,.int .u8 0,.int .u8 0,.int .u8 0,.int .u8 0,.int .u8 0,.int .u8 0,.int .u8 0,.int .u8 0,.int .u8 0,.int .u8 0,.int .u8 0,.int .u8 0] (List.replicate 20 (0:Int)):=ZHg (show Rep.rel (Zf .u8) _ [Value.int .u8 0] 0 from ⟨rfl,by decide⟩) 20;refine oe (sr (mw S rfl fun f S=>oe (ZC fun _ O=>?_)));obtain ⟨P,Q,R⟩:=Zma H;refine Zgd (fun f w=>∃ l m B t,(l,m)=P∧Zb.le d t∧St 20 r d [(3,.pointer (some ⟨s,0,none⟩)),(4,.int .i64 m)] [Loc.own (some s) 227 1 20 20 B] t f w∧Rep.rels (Zf .u8) t B l∧20=l.length∧inR .i64 m) (fun _ T=>?_) ?_
 ·have H:=Q;refine wp_block ?_;obtain ⟨ak,U,V⟩:=Zma H;refine Zqe U (fun W f w=>∃ h o u b k,(h,o,u)=W∧Zb.le d k∧St 20 r d [(0,.int .u64 o),(3,.pointer (some ⟨s,0,none⟩)),(4,.int .i64 u)] [Loc.own (some s) 227 1 20 20 b] k f w∧Rep.rels (Zf .u8) k b h∧20=h.length∧inR .u64 o∧inR .i64 u) ⟨_,_,_,[.int .u8 0,.int .u8 0,.int .u8 0,.int .u8 0,.int .u8 0,.int .u8 0,.int .u8 0,.int .u8 0,.int .u8 0,.int .u8 0,.int .u8 0,.int .u8 0,.int .u8 0,.int .u8 0,.int .u8 0,.int .u8 0,.int .u8 0,.int .u8 0,.int .u8 0,.int .u8 0],_,rfl,(leR _),(S.fr' rfl),N,(List.length_replicate (n:=20) (a:=(0:Int))).symm,M,(by decide)⟩ ?_;rintro _ f w st ⟨h,o,u,b,k,hq,F,S,C,v,al,X⟩ H am Y Z;subst hq;refine ZC fun _ aa=>sr (mv S rfl fun f S=>ov S rfl (ZD S rfl rfl ZDf) fun f S=>oe ?_);rcases Zqb (decide ((0:Int)<o)) with p | p
  ·have H:=Zyb H p;refine Zrb S rfl p (wp_skip (Zp (aa _ _ (ZC fun _ ab=>wp_block (ZC fun _ ac=>bO H fun e G H=>ZW (mv S rfl fun f S=>ov S rfl (ZD S rfl rfl (ZNb G)) fun f S=>mw S rfl fun f S=>ZP (Zp (ac _ _ (bO H fun g ad H=>?_)))))))));refine bO H fun an q H=>ZW (mv S rfl fun f S=>mv S rfl fun f S=>ov S rfl (ZD S rfl rfl (Zjq ad)) fun f S=>ov S rfl (ZD S rfl rfl ZSo) fun f S=>ov S rfl (Zrg S rfl (ZCx _)) fun f S=>?_);have I:=ZNa C (Zo q).2.1;obtain ⟨ao,ae⟩:∃ c,(List.take (Zf .u8).n (List.drop ((e).toNat*(Zf .u8).n) b))=c:=⟨_,rfl⟩;rw [ae] at I;obtain ⟨rfl,ap⟩:=I;refine ov S rfl (ZJt S Z7u rfl rfl (Zo q).1 (ltI v (Zo q).2.2.1)) fun f S=>?_;obtain ⟨w,af,S⟩:=ZBd S k_sz5 (off:=0+(e).toNat*1) (z:=.int .u8 (IntKind.u8.wrap (IntKind.u64.wrap ((48:Int)+g)))) (cs:=[.int .u8 (IntKind.u8.wrap (IntKind.u64.wrap ((48:Int)+g)))]) (Z4c rfl) rfl (i:=0) rfl (Zdi S (j:=0) rfl (ltN v (Zo q).2.2.2)) (by first | rfl | simp [plain]);have ag:Rep.rels (Zf .u8) k (List.take (0+(e).toNat*1) b++[Value.int IntKind.u8 (IntKind.u8.wrap (IntKind.u64.wrap ((48:Int)+g)))]++List.drop (0+(e).toNat*1+1) b) (h.set (e).toNat (IntKind.u8.wrap (IntKind.u64.wrap ((48:Int)+g)))):=ZJh C (Zo q).2.2.2 (show Rep.rel (Zf .u8) k [.int .u8 (IntKind.u8.wrap (IntKind.u64.wrap ((48:Int)+g)))] _ from (Zca (Z5b _ _))) rfl rfl
   have ah:20=(h.set (e).toNat (IntKind.u8.wrap (IntKind.u64.wrap ((48:Int)+g)))).length:=setN v;refine Zhk wn rfl (af rfl rfl) (ZP (Zud (Zp (ab _ _ (bO H fun aq J H=>ZW (mv S rfl fun f S=>ov S rfl (ZD S rfl rfl (Z3q J)) fun f S=>mw S rfl fun f S=>ZP ?_))))));obtain rfl:=ZL H;refine Y _ rfl _ _ ⟨_,_,_,(List.take (0+(e).toNat*1) b++[Value.int IntKind.u8 (IntKind.u8.wrap (IntKind.u64.wrap ((48:Int)+g)))]++List.drop (0+(e).toNat*1+1) b),_,rfl,F,(S.fr' rfl),ag,ah,(Ztr J),(ZIb G).2⟩
  have H:=ZCb H p;refine ZOa S rfl p (wp_exit (Z7a ?_));obtain rfl:=ZL H;have hq:=Z _ rfl;subst hq;have H:=V;refine Z7a (Zzd ?_);obtain rfl:=ZL H;refine Zp (T _ _ ⟨_,_,b,_,rfl,(leT (leR _) F),(S.fr' rfl),C,v,X⟩)
 rintro f w ⟨l,m,B,t,hq,ar,S,ai,x,au⟩;subst hq;have H:=R;refine Zp (O _ _ (ZC fun _ aj=>bO H fun av A H=>ZW (mv S rfl fun f S=>ov S rfl (Zjx S Z7u rfl rfl (Zpg A).1 (by have:=(Zpg A).2.1;have:=x;omega)) fun f S=>ov S rfl (ZTz S (j:=0) rfl ai x (by have:=(Zpg A).2.1;have:=(Zpg A).1;have:=x;omega) rfl Tryz.underlying189 Tryz.underlying5 Tryz.underlying9) fun f S=>mw S rfl fun f S=>ZP (Zp (aj _ _ (wp_ret ?_))))));obtain rfl:=ZL H;refine ZNf S (Z3c rfl (Z3a S rfl)) ⟨[.string (Zt ((ZCd (l.drop ((m).toNat)))))],rfl,(ZYi (by have:=x;simp only [ZHw,List.length_drop];unfold maxLen;omega))⟩
theorem Zdw {b:World} {a:Zb} (hv:VIn a b) {c:List Value} {n:Int} (d:Rep.rel (Zf .u64) a c n) {z:(List UInt8)} (hm:Z0g n=some z) :
  Ret Tryz.prog 119 #[(Zf .u64).val c] b a (fun y v'=>∃ e,y=Zeb.val e∧Zeb.rel v' e z) :=
 Zxw hv d (ZBz d.2 hm)
end Go.Eng
namespace Go.Proofs
open Go.Shelf
def Tryz.lays105_ren:Go.Shelf.Ren:=⟨fun | 105=>120 | 212=>127 | 99=>152 | 165=>153 | 166=>121 | 170=>154 | 169=>122 | 263=>159 | 264=>160 | 206=>172 | 240=>155 | 241=>173 | 276=>174 | 277=>179 | n=>n,fun | 9=>9 | 3=>3 | 4=>4 | 20=>20 | 0=>0 | 46=>200 | 109=>202 | 5=>5 | 72=>191 | 76=>194 | 51=>154 | 146=>233 | 53=>153 | 148=>224 | 70=>188 | 37=>189 | 75=>193 | 127=>230 | 164=>241 | 80=>106 | n=>n,fun | n=>n⟩
theorem Tryz.lays105:Go.Proofs.Lays.n105 Tryz.prog Tryz.lays105_ren:={
 mixed:=by kernel_rfl
 f99:=Tryz.func152.trans (congrArg some (by kernel_rfl))
 f105:=Tryz.func120.trans (congrArg some (by kernel_rfl))
 f165:=Tryz.func153.trans (congrArg some (by kernel_rfl))
 f166:=Tryz.func121.trans (congrArg some (by kernel_rfl))
 f169:=Tryz.func122.trans (congrArg some (by kernel_rfl))
 f170:=Tryz.func154.trans (congrArg some (by kernel_rfl))
 f206:=Tryz.func172.trans (congrArg some (by kernel_rfl))
 f212:=Tryz.func127.trans (congrArg some (by kernel_rfl))
 f240:=Tryz.func155.trans (congrArg some (by kernel_rfl))
 f241:=Tryz.func173.trans (congrArg some (by kernel_rfl))
 f263:=Tryz.func159.trans (congrArg some (by kernel_rfl))
 f264:=Tryz.func160.trans (congrArg some (by kernel_rfl))
 f276:=Tryz.func174.trans (congrArg some (by kernel_rfl))
 f277:=Tryz.func179.trans (congrArg some (by kernel_rfl))
 t0:=Tryz.underlying0
 a0:=Tryz.isAgg0
 z0:=Tryz.sizeOf0
 v0:=Tryz.zeroValue0
 t3:=Tryz.underlying3
 a3:=Tryz.isAgg3
 z3:=Tryz.sizeOf3
 v3:=Tryz.zeroValue3
 t4:=Tryz.underlying4
 a4:=Tryz.isAgg4
 z4:=Tryz.sizeOf4
 v4:=Tryz.zeroValue4
 t5:=Tryz.underlying5
 a5:=Tryz.isAgg5
 z5:=Tryz.sizeOf5
 v5:=Tryz.zeroValue5
 t9:=Tryz.underlying9
 a9:=Tryz.isAgg9
 z9:=Tryz.sizeOf9
 v9:=Tryz.zeroValue9
 t20:=Tryz.underlying20
 a20:=Tryz.isAgg20
 z20:=Tryz.sizeOf20
 v20:=Tryz.zeroValue20
 t37:=Tryz.underlying189
 a37:=Tryz.isAgg189
 z37:=Tryz.sizeOf189
 v37:=Tryz.zeroValue189
 t46:=Tryz.underlying200
 a46:=Tryz.isAgg200
 z46:=Tryz.sizeOf200
 v46:=Tryz.zeroValue200
 t51:=Tryz.underlying154
 a51:=Tryz.isAgg154
 z51:=Tryz.sizeOf154
 v51:=Tryz.zeroValue154
 t53:=Tryz.underlying153
 a53:=Tryz.isAgg153
 z53:=Tryz.sizeOf153
 v53:=Tryz.zeroValue153
 t70:=Tryz.underlying188
 a70:=Tryz.isAgg188
 z70:=Tryz.sizeOf188
 v70:=Tryz.zeroValue188
 t72:=Tryz.underlying191
 a72:=Tryz.isAgg191
 z72:=Tryz.sizeOf191
 v72:=Tryz.zeroValue191
 t75:=Tryz.underlying193
 a75:=Tryz.isAgg193
 z75:=Tryz.sizeOf193
 v75:=Tryz.zeroValue193
 t76:=Tryz.underlying194
 a76:=Tryz.isAgg194
 z76:=Tryz.sizeOf194
 v76:=Tryz.zeroValue194
 t109:=Tryz.underlying202
 a109:=Tryz.isAgg202
 z109:=Tryz.sizeOf202
 v109:=Tryz.zeroValue202
 t127:=Tryz.underlying230
 a127:=Tryz.isAgg230
 z127:=Tryz.sizeOf230
 v127:=Tryz.zeroValue230
 t146:=Tryz.underlying233
 a146:=Tryz.isAgg233
 z146:=Tryz.sizeOf233
 v146:=Tryz.zeroValue233
 t148:=Tryz.underlying224
 a148:=Tryz.isAgg224
 z148:=Tryz.sizeOf224
 v148:=Tryz.zeroValue224
 t164:=Tryz.underlying241
 a164:=Tryz.isAgg241
 z164:=Tryz.sizeOf241
 v164:=Tryz.zeroValue241 }
theorem Tryz.Builder_Extra_105:Builder.Extra Tryz.prog Tryz.lays105_ren:={
 sizeBuilder:=by kernel_rfl
 liesBuilder:=by kernel_rfl
 t5:=Tryz.underlying5
 a5:=Tryz.isAgg5
 z5:=Tryz.sizeOf5
 v5:=Tryz.zeroValue5
 infoByte:=by kernel_rfl
 cellsByte:=by kernel_rfl
 sizeByte:=by kernel_rfl
 neB5:=by decide }
end Go.Proofs
namespace Go.Eng
open Go.Proofs Go.RowKit Go.Shelf
theorem writes:Z2s Tryz.prog 121 191 5:=fun B b bs s w h hl hB=>Any.Builder_WriteString { Tryz.lays105 with } Tryz.Builder_Extra_105 B b bs s w h hl hB
theorem tells:Tells Tryz.prog 122 191 5:=fun B b l w h hB=>Any.Builder_String_any { Tryz.lays105 with } Tryz.Builder_Extra_105 B b l w h hB
end Go.Eng
namespace Go.Eng
open Go.Proofs Go.RowKit
theorem Znz (l:List UInt8) (c:Nat):Lib.repeatL l c=(List.replicate c l).flatten:=by
 induction c with
 | zero=>rfl
 | succ c ih=>simp [Lib.repeatL,List.replicate_succ,ih]
theorem ZHz {b:World} {a:Zb} (hv:VIn a b) {f:List Value} {s:List UInt8} (k:Rep.rel Zeb a f s) {g:List Value} {c:Int} (l:Rep.rel (Zf .i64) a g c) {z:List UInt8} (hm:ZAg s c=some z) :
  Ret Tryz.prog 120 #[Zeb.val f,(Zf .i64).val g] b a (fun y v'=>∃ h,y=Zeb.val h∧Zeb.rel v' h z):=by
 obtain ⟨rfl,hs⟩:=k;obtain ⟨rfl,hc⟩:=l;unfold ZAg at hm;split at hm
 ·rename_i hh
  cases hm
  obtain ⟨C,rfl⟩:=Int.eq_ofNat_of_zero_le hh.1;have hc:=ZTa.1 hc;have d:=hh.2;rw [Int.toNat_natCast] at d;have:=Any.strings_Repeat Tryz.lays105 Tryz.Builder_Extra_105 (Zt s) C b (by omega) (by rw [Zed];exact d);refine Calls.mono this fun e w' ⟨i,j⟩=>?_;have m:(⟨(Lib.repeatL (Zt s).data.toList C).toArray⟩:ByteArray)=Zt (List.replicate C s).flatten:=by
   rw [Znz];rfl
  rw [m] at i;exact ⟨_,a,i,j,VStep.ext hv j,[.string (Zt (List.replicate C s).flatten)],rfl,rfl,by simp only [Int.toNat_natCast];rw [List.length_flatten];simp;unfold maxLen;rw [Nat.mul_comm] at d;omega⟩
 ·cases hm
theorem text_w {e:World} {c:Zb} (hv:VIn c e) {c0:List Value} {a:Nat} (p0:Rep.rel Zw c c0 a) {z:(List UInt8)} (H:ZZi a=some z):Ret Tryz.prog 88 #[Zw.val c0] e c (fun y v'=>∃ r0,y=Zeb.val r0∧Zeb.rel v' r0 z):=by
 obtain ⟨q1,n2,k3,rfl⟩:=ZKa p0;refine Zej (K:=49) (args:=[.slice q1 n2 k3]) hv Tryz.func88 rfl rfl zl fun f S=>?_;unfold ZZi at H;refine sr (mw S rfl fun f S=>oe (sr ?_));have S:=S.nilLoc 9 1;refine ov S rfl (ZLd S (y:=.slice (mkA none) 0 0) rfl) fun f S=>oe (ZC fun _ ar=>?_);obtain ⟨au,av,ax⟩:=Zma H;refine Zgd (fun f w=>∃ o F s G U I,o=au∧Zb.le c I∧St 49 e c [(3,.slice (mkA F) s G)] [Loc.own F 9 1 s G U] I f w∧Rep.rels Zeb I U o∧s=o.length) (fun _ ay=>?_) ?_
 ·have H:=av;refine wp_block ?_;obtain ⟨bt,az,aA⟩:=Zma H;refine Zqe az (fun aB f w=>∃ J g L M N p h q k t,(J,g)=aB∧Zb.le c t∧St 49 e c [(0,.slice L M N),(3,.slice (mkA p) h q)] [Loc.own p 9 1 h q k] t f w∧Rep.rel Zw t [.slice L M N] J∧Rep.rels Zeb t k g∧h=g.length) ⟨_,_,_,_,_,none,0,0,[],_,rfl,(leR _),(S.fr' rfl),p0,ZKd,rfl⟩ ?_;rintro _ f w st ⟨J,g,L,M,N,p,h,q,k,t,hq,ac,S,ad,d,ae⟩ H bu aC aD;subst hq;refine ZC fun _ aE=>sr (mv S rfl fun f S=>ov S rfl (Z8b S (Zhb ad) rfl rfl Zfa) fun f S=>ov S rfl (ZD S rfl rfl ZDf) fun f S=>oe ?_);rcases Zqb (decide ((0:Int)<(((Zc 18446744073709551616 J)).length:Int))) with u | u
  ·have H:=Zyb H u;refine Zrb S rfl u (wp_skip (Zp (aE _ _ (wp_block (ZC fun _ aF=>bO H fun O aG H=>ZW (mv S rfl fun f S=>opc S rfl (Zwa S [.slice L M N,.int .u64 10000000000000000000] ZLt rfl rfl) (Z6r S.vin ad (show Rep.rel (Zf .u64) _ [.int .u64 10000000000000000000] (10000000000000000000:Int) from (Zca (by decide))) aG) ?_))))));rintro _ bv f w af ⟨bw,bx,rfl,m,aH⟩ S;have d:=ZO af d;obtain ⟨aI,aJ,aK,rfl⟩:=ZKa m;obtain ⟨rfl,aL⟩:=aH;refine mv S rfl fun f S=>ov S rfl (ZAa S rfl rfl) fun f S=>ov S rfl (ZAa S rfl rfl) fun f S=>mw S rfl fun f S=>mw S rfl fun f S=>ZP (Zp (aF _ _ (ZC fun _ aM=>bO H fun bz aN H=>ZW (mv S rfl fun f S=>opc S rfl (Zwa S [.int .u64 (O.2)] k_en119 rfl rfl) (Zdw S.vin (show Rep.rel (Zf .u64) _ [.int .u64 (O.2)] O.2 from (Zca aL)) aN) ?_))));rintro _ aO f w V ⟨bA,rfl,aP⟩ S;have d:=ZO V d;obtain ⟨rfl,aQ⟩:=aP;refine mw S rfl fun f S=>ZP (Zp (aM _ _ (ZC fun _ aR=>sr (mv S rfl fun f S=>?_))));have m:=ZEa V m;refine ov S rfl (Z8b S (Zhb m) rfl rfl Zfa) fun f S=>ov S rfl (ZD S rfl rfl ZDf) fun f S=>oe ?_;obtain ⟨aS,aT,aU⟩:=Zma H;refine Zgd (fun f w=>∃ b P,b=aS∧Zb.le aO P∧St 49 e c [(3,.slice (mkA p) h q),(4,.slice aI aJ aK),(6,.string (Zt b))] [Loc.own p 9 1 h q k] P f w∧b.length≤maxLen) (fun _ ag=>?_) ?_
   ·have H:=aT;rcases Zqb (decide ((0:Int)<(((Zc 18446744073709551616 O.1)).length:Int))) with v | v
    ·have H:=Zyb H v;refine Zrb S rfl v (bO H fun W ah H=>bO H fun bB aV H=>bO H fun bC ai H=>ZW (mv S rfl fun f S=>ov S rfl (ZRs S rfl rfl Tryz.underlying9) fun f S=>ov S rfl (ZD S rfl rfl (ZNb ah)) fun f S=>opc S rfl (Zwa S [.string (Zt (([48]:List UInt8))),.int .i64 W] k_en120 rfl rfl) (ZHz S.vin (show Rep.rel Zeb _ [.string (Zt (([48]:List UInt8)))] (([48]:List UInt8)) from (ZYi zl)) (show Rep.rel (Zf .i64) _ [.int .i64 W] W from (Zca (ZIb ah).2)) aV) ?_));rintro _ bD f w aj ⟨bE,rfl,aW⟩ S;have d:=ZO aj d;obtain ⟨rfl,bG⟩:=aW;refine mv S rfl fun f S=>ov S rfl (ZSl S rfl rfl (Z7t ai)) fun f S=>mw S rfl fun f S=>ZP ?_;obtain rfl:=ZL H;refine Zp (ag _ _ ⟨_,_,rfl,(leT (leR _) aj),(S.fr' rfl),(Zsj ai)⟩)
    have H:=ZCb H v;refine ZOa S rfl v (wp_skip ?_);obtain rfl:=ZL H;refine Zp (ag _ _ ⟨_,_,rfl,(leR _),(S.fr' rfl),aQ⟩)
   rintro f w ⟨b,P,hq,X,S,aX⟩;subst hq;have H:=aU;have d:=ZO X d;refine Zp (aR _ _ (bO H fun bH aY H=>ZW (mv S rfl fun f S=>mv S rfl fun f S=>?_)));obtain ⟨bI,w,aZ,S⟩:=Zhh S (n:=1) (cs:=[.string (Zt b)]) (vals:=[(0,.string (Zt b))]) (sz:=1) rfl (by decide) (ZPq Zer (x:=.string (Zt b)) (cs:=[.string (Zt b)]) rfl rfl (by decide));have Y:Rep.rels Zeb P [.string (Zt b)] [b]:=(Z4u (ZYi aX) ZKd);refine ZAc wn rfl zl (aZ rfl) S fun f S=>?_;have a0:=S;obtain ⟨ak,al,w,a1,S⟩:=Z1k (ty:=183) Zer S (i:=1) (n':=(g++[b]).length) rfl (Zve Y rfl) (Zqh S (j:=0) rfl) (ZRg Y) (appN ae rfl) (Zbe aY) (by decide);have a2:=ZQb d Y;refine ZAc wn rfl zl (ZCe a0 rfl rfl a1) S fun f S=>mv S rfl fun f S=>mw S rfl fun f S=>mw S rfl fun f S=>ZP (Zud ?_);obtain rfl:=ZL H;have S:=S.reorder (ℓ':=[Loc.own ak 9 1 ((g++[b]).length) al ((k++[.string (Zt b)]))]) [1] rfl (by decide);have m:=ZEa X m;refine aC _ rfl _ _ ⟨_,_,_,_,_,ak,(g++[b]).length,al,(k++[.string (Zt b)]),_,rfl,(leT (leT (leT ac af) V) X),(S.fr' rfl),m,a2,rfl⟩
  have H:=ZCb H u;refine ZOa S rfl u (wp_exit (Z7a ?_));obtain rfl:=ZL H;have hq:=aD _ rfl;subst hq;have H:=aA;refine Z7a (Zzd ?_);obtain rfl:=ZL H;refine Zp (ay _ _ ⟨_,p,h,q,k,_,rfl,(leT (leR _) ac),(S.fr' rfl),d,ae⟩)
 rintro f w ⟨o,F,s,G,U,I,hq,bJ,S,a3,am⟩;subst hq;have H:=ax;refine Zp (ar _ _ (ZC fun _ a4=>sr (mv S rfl fun f S=>ov S rfl (Z8b S am rfl rfl Z3l) fun f S=>ov S rfl (ZD S rfl rfl Z8g) fun f S=>oe ?_)));rcases Zqb (((o.length:Int))==(0:Int)) with B | B
 ·have H:=Zyb H B;refine Zrb S rfl B (sr (mw S rfl fun f S=>oe (wp_ret (ZOh ?_))));obtain rfl:=ZL H;refine ZNf S (Z3c rfl (Z3a S rfl)) ⟨[.string (Zt (([48]:List UInt8)))],rfl,(ZYi zl)⟩
 have H:=ZCb H B;refine ZOa S rfl B (wp_skip (Zp (a4 _ _ (sr ?_))));obtain ⟨an,bK,S,C⟩:=S.pubSlice (i:=0) (A:=Zeb) (l:=o) (ℓ':=[]) rfl rfl am a3 rfl;refine op_newB 5 S wn rfl zl (ZFo k_zv191) fun r f w S a5=>oe (ZC fun _ a6=>ZC fun _ a7=>bO H fun bM ao H=>ZW (mv S rfl fun f S=>ov S rfl (Z8b S (Zhb C) rfl rfl Z3l) fun f S=>ov S rfl (ZD S rfl rfl (ZNb ao)) fun f S=>mw S rfl fun f S=>ZP (Zp (a7 _ _ ?_))));obtain ⟨a8,a9,ba⟩:=Zma H;refine Zgd (fun f w=>∃ Q R,Q=a8∧Zb.le an R∧St 49 e c [(7,.pointer (some ⟨r,0,none⟩))] [] R f w∧Bld 191 5 r e R Q w) (fun _ bb=>?_) ?_
 ·have H:=a9;refine wp_block ?_;obtain ⟨bP,bc,bd⟩:=Zma H;refine Zqe bc (fun be f w=>∃ Z D T,(Z,D)=be∧Zb.le an T∧St 49 e c [(3,.slice (mkA F) s G),(7,.pointer (some ⟨r,0,none⟩)),(8,.int .i64 D)] [] T f w∧Bld 191 5 r e T Z w∧inR .i64 D) ⟨_,_,_,rfl,(leR _),(S.fr' rfl),a5,(ZIb ao).2⟩ ?_;rintro _ f w st ⟨Z,D,T,hq,aa,S,ap,bQ⟩ H bR bf bg;subst hq;refine ZC fun _ bh=>sr (mv S rfl fun f S=>ov S rfl (ZD S rfl rfl Zom) fun f S=>oe ?_);rcases Zqb (decide ((0:Int)≤D)) with E | E
  ·have H:=Zyb H E;refine Zrb S rfl E (wp_skip (Zp (bh _ _ (ZC fun _ bi=>wp_block (bO H fun bj ab H=>bO H fun bS bk H=>ZW (mv S rfl fun f S=>mv S rfl fun f S=>?_))))));have C:=ZEa aa C;obtain ⟨_,bT,bU,bV,bm,bn,bo⟩:=Zqc C (Zo ab).2.1;obtain ⟨rfl,rfl⟩:=ZIA bm;obtain ⟨rfl,bW⟩:=bo;refine ov S rfl (Zsa S rfl rfl Z3l (Zo ab).1 (ltI (Zhb C) (Zo ab).2.2.1)) fun f S=>ov S rfl (Zkb S rfl k_sz9 (S.view bn)) fun f S=>ZDz writes ap (ZOy bk) S wn rfl zl (Zwa S [.pointer (some ⟨r,0,none⟩),.string (Zt bj)] k_en121 rfl rfl) fun f w S bp=>ZP (Zud (Zp (bi _ _ (bO H fun bX aq H=>ZW (mv S rfl fun f S=>ov S rfl (ZD S rfl rfl (ZNb aq)) fun f S=>mw S rfl fun f S=>ZP ?_)))));obtain rfl:=ZL H;refine bf _ rfl _ _ ⟨_,_,_,rfl,aa,(S.fr' rfl),bp,(ZIb aq).2⟩
  have H:=ZCb H E;refine ZOa S rfl E (wp_exit (Z7a ?_));obtain rfl:=ZL H;have hq:=bg _ rfl;subst hq;have H:=bd;refine Z7a (Zzd ?_);obtain rfl:=ZL H;refine Zp (bb _ _ ⟨_,_,rfl,(leT (leR _) aa),(S.fr' rfl),ap⟩)
 rintro f w ⟨Q,R,hq,bY,S,bq⟩;subst hq;have H:=ba;refine Zp (a6 _ _ (ZC fun _ br=>bO H fun bZ bs H=>ZW (op_tell tells bq S wn rfl zl (Zwa S [.pointer (some ⟨r,0,none⟩)] k_en122 rfl rfl) fun f w S=>mw S rfl fun f S=>ZP (Zp (br _ _ (wp_ret ?_))))));obtain rfl:=ZL H;refine ZNf S (Z3c rfl (Z3a S rfl)) ⟨[.string (Zt Q)],rfl,(ZYi (Zsj bs))⟩
theorem text_c {c:World} {b:Zb} (hv:VIn b c) {d:List Value} {a:Nat} (f:Rep.rel Zw b d a) {z:(List UInt8)} (hm:Zdg a=some z) :
  Ret Tryz.prog 88 #[Zw.val d] c b (fun y v'=>∃ e,y=Zeb.val e∧Zeb.rel v' e z) :=
 text_w hv f (Z6A hm)
end Go.Eng
set_option maxRecDepth 100000
set_option maxHeartbeats 4000000
namespace Go.Eng
open Go.Proofs Go.RowKit
noncomputable def Z5n:FuncId×Con:=(88,⟨[.leaf 0],[.str],fun p=>Zdg p⟩)
theorem text_k:ZUd Tryz.prog Z5n.1 Z5n.2:=fun w v vals x z hv ha hz=>by
 obtain ⟨c0,e0,p0⟩:=ha;subst e0
 exact .inl ⟨fun _ _=>by kernel_rfl,Ret.mono (text_c hv p0 hz) fun y v' _ ⟨r0,e,h0⟩=>⟨r0,e,h0⟩⟩
end Go.Eng
set_option maxRecDepth 100000
set_option maxHeartbeats 4000000
namespace Go.Eng
open Go.Proofs Go.RowKit
noncomputable def Zcl:FuncId×Con:=(42,⟨[.leaf 3],[.str],fun p=>ZCf p⟩)
theorem ZPo:KQ Zcl:=Zh (Zz (C:=cf0 [Z5n] [] [] []) (.n (.n (.two (.n (.j [1] [] [.s 3 (.dat .str)] .no)) (.f (.n (.j [] [] [.s 3 (.dat .str)] .no)))))) Tryz.func42 [] (fun v vals x z ha hz=>.trans (by kernel_rfl) (ZHA hz)) ⟨text_k,tr⟩)
noncomputable def Z4r (x:Rat):Option ((List UInt8)) :=
 bnd (ZQg x.num.natAbs) fun b =>
 bnd (ifb (decide (x.num<0))
 (bnd (Zlc x) fun d =>
 some (!(d)))
 (some false))
 (fun (e:Bool) =>
 (bnd (ifb (e)
 (bnd (Zlb ((([45]:List UInt8))++b)) fun j =>
 some (((([45]:List UInt8))++b)))
 (some b))
 (fun (a:(List UInt8)) =>
 (bnd (Zfc x) fun f =>
 bnd (ZHa ([(1:Int)])) fun g =>
 bnd (ZBc f g) fun h =>
 bnd (ifb (decide ((0:Int)<h))
 (bnd (Zlb (a++(([47]:List UInt8)))) fun k =>
 bnd (ZQg x.den) fun c =>
 bnd (Zlb (((a++(([47]:List UInt8))))++c)) fun l =>
 some ((((a++(([47]:List UInt8))))++c)))
 (some a))
 (fun (i:(List UInt8)) =>
 (some i))))))
end Go.Eng
set_option maxRecDepth 100000
set_option maxHeartbeats 4000000
namespace Go.Eng
open Go.Proofs Go.RowKit
noncomputable def Zyj:FuncId×Con:=(97,⟨[.leaf 4],[.bool],fun p=>Zlc p⟩)
theorem Zgn:KQ Zyj:=Zh (Zz (C:=cf2 [(43,1),(45,4)] []) .no Tryz.func97 [] (fun v vals x z ha hz=>.trans (by kernel_rfl) (ZWy hz)))
end Go.Eng
set_option maxRecDepth 100000
set_option maxHeartbeats 4000000
namespace Go.Eng
open Go.Proofs Go.RowKit
noncomputable def ZUt:FuncId×Con:=(100,⟨[.leaf 1],[.str],fun p=>ZQg p⟩)
theorem Zgz:KQ ZUt:=Zh (Zz (C:=cf2 [(43,1),(45,4)] [Zio]) (.n (.n (.f (.j [] [] [.s 3 (.dat .str)] (.f (.l [] [] [.s 0 (.dat (.leaf 1)),.s 3 (.dat .str)] 0 [] [] [.s 3 (.dat .str)] (.f (.n (.f (.n (.f (.n (.j [4] [] [.s 3 (.dat .str)] (.f (.l [4] [] [.s 3 (.dat .str),.s 5 (.dat (.int .u32)),.s 6 (.dat (.int .i64))] 2 [4] [] [.s 3 (.dat .str)] (.f (.f (.f (.j [3,4,5,6] [] [.s 25 (.dat .bool)] .no))))))))))))))))))) Tryz.func100 [] (fun v vals x z ha hz=>.trans (by kernel_rfl) (ZQw hz)) ⟨Zbq,tr⟩)
end Go.Eng
set_option maxRecDepth 100000
set_option maxHeartbeats 4000000
namespace Go.Eng
open Go.Proofs Go.RowKit
noncomputable def ZYh:FuncId×Con:=(102,⟨[.leaf 4],[.leaf 1],fun p=>Zfc p⟩)
theorem Zul:KQ ZYh:=Zh (Zz (C:=cf2 [(43,1),(45,4)] []) .no Tryz.func102 [] (fun v vals x z ha hz=>.trans (by kernel_rfl) (ZOA hz)))
theorem ZFx {x:Rat} {z:List UInt8} (h:Zkl x=some z):Z4r x=some z:=by
 unfold Zkl at h;split at h
 ·rename_i hh;obtain ⟨h1,h2⟩:=hh
  cases h
  unfold Z4r ZQg;have l1:=ZNl (n:=x.num.natAbs) (by omega);have l2:=ZNl (n:=x.den) (by omega);rw [if_pos (Zde h1),Za];have e0:ifb (decide (x.num<0)) (bnd (Zlc x) fun y136=>some (!(y136))) (some false)=some (decide (x.num<0)):=by
   unfold Zlc;by_cases h:x.num<0
   ·have:x≠0:=fun e=>by subst e;simp at h
    rw [decide_eq_true h,Zd,Za,decide_eq_false this];rfl
   ·rw [decide_eq_false h,Ze]
  rw [e0,Za];have e1:ifb (decide (x.num<0)) (bnd (Zlb ([45]++ZU x.num.natAbs)) fun y80=>some (([45]:List UInt8)++ZU x.num.natAbs)) (some (ZU x.num.natAbs))=some ((if x.num<0 then [45] else [])++ZU x.num.natAbs):=by
   by_cases h:x.num<0
   ·rw [decide_eq_true h,Zd,Zhe (by simp;omega),Za,if_pos h]
   ·rw [decide_eq_false h,Ze,if_neg h];rfl
  rw [e1,Za];unfold txtQ Zfc ZBc;have l3:((if x.num<0 then [45] else [])++ZU x.num.natAbs:List UInt8).length≤4398046511105:=by
   rw [List.length_append];split <;> simp <;> omega
  generalize ((if x.num<0 then [45] else [])++ZU x.num.natAbs:List UInt8)=s at *;rw [Za,Zjn,Za,Za,Z3u];by_cases hd:x.den=1
  ·rw [hd];simp [ifb,bnd]
  ·have:=x.den_nz;rw [decide_eq_true (by omega),Zd,Zhe (by simp;omega),Za,if_pos (Zde h2),Za,Zhe (by simp;omega),Za,Za,if_neg hd];simp
 ·cases h
end Go.Eng
set_option maxRecDepth 100000
set_option maxHeartbeats 4000000
namespace Go.Eng
open Go.Proofs Go.RowKit
noncomputable def Znt:FuncId×Con:=(62,⟨[.leaf 4],[.str],fun p=>Zkl p⟩)
theorem rtext_k:KQ Znt:=Zh (Zz (C:=cf2 [(43,1),(45,4)] [Zyj,ZUt,Zfj,ZYh]) (.n (.n (.two (.two (.j [1,3] [] [.s 13 (.dat .bool)] .no) (.j [1] [] [.s 3 (.dat .str)] .no)) (.f (.n (.j [] [] [.s 3 (.dat .str)] .no)))))) Tryz.func62 [] (fun v vals x z ha hz=>.trans (by kernel_rfl) (ZFx hz)) ⟨Zgn,Zgz,Zwl,Zul,tr⟩)
end Go.Eng
set_option maxRecDepth 100000
set_option maxHeartbeats 4000000
namespace Go.Eng
open Go.Proofs Go.RowKit
noncomputable def is1_q:FuncId×Con:=(21,⟨[.leaf 3,.leaf 4],[.bool],fun p=>is1_m p.1 p.2⟩)
theorem is1_k:KQ is1_q:=Zh (Zu (C:=cf0 [Zcl,Znt] [] [] []) .no Tryz.func21 [] (fun _=>by kernel_rfl) ⟨ZPo,rtext_k,tr⟩)
end Go.Eng
set_option maxRecDepth 100000
set_option maxHeartbeats 4000000
namespace Go.Eng
open Go.Proofs Go.RowKit
noncomputable def ZAn:FuncId×Con:=(57,⟨[.pair (.leaf 4) (.pair (.leaf 4) (.pair (.leaf 4) (.leaf 4)))],[.bool],fun p=>ZXg p⟩)
theorem ZKt:KQ ZAn:=Zh (Zu (C:=cf0 [Zyj] [] [] []) (.n (.f (.j [] [] [.s 2 (.dat .bool)] .no))) Tryz.func57 [] (fun _=>by kernel_rfl) ⟨Zgn,tr⟩)
end Go.Eng
set_option maxRecDepth 100000
set_option maxHeartbeats 4000000
namespace Go.Eng
open Go.Proofs Go.RowKit
noncomputable def ZPr:FuncId×Con:=(148,⟨[.pair (.pair (.leaf 4) (.pair (.leaf 4) (.pair (.leaf 4) (.leaf 4)))) (.pair (.leaf 4) (.pair (.leaf 4) (.pair (.leaf 4) (.leaf 4))))],[.bool],fun p=>ZVu p⟩)
theorem wZero_k:KQ ZPr:=Zh (Zu (C:=cf0 [ZAn] [] [] []) (.n (.f (.j [] [] [.s 2 (.dat .bool)] .no))) Tryz.func148 [] (fun _=>by kernel_rfl) ⟨ZKt,tr⟩)
end Go.Eng
set_option maxRecDepth 100000
set_option maxHeartbeats 4000000
namespace Go.Eng
open Go.Proofs Go.RowKit
noncomputable def Zvj:FuncId×Con:=(136,⟨[.leaf 1,.leaf 1],[.leaf 1],fun p=>Z5d p.1 p.2⟩)
theorem ZXn:KQ Zvj:=Zh (Zz (C:=cf2 [(43,1),(45,4)] [Zce]) (.n (.n (.n (.f (.n (.j [] [] [.s 5 (.own 154 (.int .u32)),.s 6 (.dat (.int .u64))] (.f (.l [0,1] [] [.s 5 (.own 154 (.int .u32)),.s 6 (.dat (.int .u64)),.s 7 (.dat (.int .i64))] 0 [] [] [.s 5 (.own 154 (.int .u32)),.s 6 (.dat (.int .u64))] (.f (.two (.f (.j [0,1,5,6,7] [] [.s 18 (.dat .bool)] .no)) (.f (.f (.two (.n (.j [0,1,5,7] [] [.s 6 (.dat (.int .u64))] .no)) (.f (.n (.j [0,1,5,7] [] [.s 6 (.dat (.int .u64))] .no)))))))))))))))) Tryz.func136 [] (fun v vals x z ha hz=>.trans (by kernel_rfl) (Zez hz)) ⟨ZOe,tr⟩)
theorem radd_eq {x y:Rat} (h:smQ x) (h':smQ y):ZSn x y=some (x+y):=by
 obtain ⟨a1,a2⟩:=h;obtain ⟨b1,b2⟩:=h';unfold ZSn Zfc;have p1:=Zgb x.num.natAbs y.den;have p2:=Zgb y.num.natAbs x.den;have p3:=Zgb x.den y.den;have p4:=Znn (x.num.natAbs*y.den) (y.num.natAbs*x.den);have hd:x.den*y.den≠0:=Nat.mul_ne_zero x.den_nz y.den_nz;have e1:Zva x.num.natAbs y.den=some (x.num.natAbs*y.den):=by unfold Zva;rw [if_pos ⟨ZVb (by omega),ZVb (by omega)⟩]
 have e2:Zva y.num.natAbs x.den=some (y.num.natAbs*x.den):=by unfold Zva;rw [if_pos ⟨ZVb (by omega),ZVb (by omega)⟩]
 have e3:Zva x.den y.den=some (x.den*y.den):=by unfold Zva;rw [if_pos ⟨ZVb (by omega),ZVb (by omega)⟩]
 have eN:((x.num.natAbs*y.den:Nat):Int)=(x.num.natAbs:Int)*y.den:=by simp
 have eM:((y.num.natAbs*x.den:Nat):Int)=(y.num.natAbs:Int)*x.den:=by simp
 have key:∀ (s:Bool) (n:Nat),bl n≤1099511627776→sgn s n=x.num*y.den+y.num*x.den→Zza s n (x.den*y.den)=some (x+y):=by
  intro s n hn he;unfold Zza;rw [if_pos ⟨Zde hn,Zde (by omega),hd⟩,he,← Rat.add_def']
 rw [Za,Za,e1,Za,e2,Za,e3];obtain ⟨N,hN⟩:∃ N,N=x.num.natAbs*y.den:=⟨_,rfl⟩;obtain ⟨M,hM⟩:∃ M,M=y.num.natAbs*x.den:=⟨_,rfl⟩;rw [← hN] at p1 p4 eN ⊢;rw [← hM] at p2 p4 eM ⊢;have sx:x.num*(y.den:Int)=if x.num<0 then -(N:Int) else N:=by
  split
  ·rw [eN,← Int.neg_mul];congr 1;omega
  ·rw [eN];congr 1;omega
 have sy:y.num*(x.den:Int)=if y.num<0 then -(M:Int) else M:=by
  split
  ·rw [eM,← Int.neg_mul];congr 1;omega
  ·rw [eM];congr 1;omega
 by_cases hs:(x.num<0)↔(y.num<0)
 ·have e4:Z5d N M=some (N+M):=by unfold Z5d;rw [if_pos ⟨ZVb (by omega),ZVb (by omega)⟩]
  have e5:((decide (x.num<0))==(decide (y.num<0)))=true:=by
   by_cases h:x.num<0
   ·simp [h,hs.1 h]
   ·have h2:¬ y.num<0:=fun k=>h (hs.2 k);simp [h,h2]
  rw [e5,Zd,e4,Za,Za,key _ _ (by omega) ?_,Za];rw [sx,sy];unfold sgn;by_cases h:x.num<0
  ·have h2:=hs.1 h;simp [h,h2];omega
  ·have h2:¬ y.num<0:=fun k=>h (hs.2 k);simp [h,h2]
 ·have e5:((decide (x.num<0))==(decide (y.num<0)))=false:=by
   apply beq_false_of_ne;intro h;exact hs (by by_cases k:x.num<0 <;> by_cases k2:y.num<0 <;> simp_all)
  rw [e5,Ze];unfold ZBc;rw [Za];by_cases hle:M≤N
  ·have e6:decide ((0:Int)≤Zea N M)=true:=by
    unfold Zea;rw [if_neg (by omega)];split <;> rfl
   have e4:ZUb N M=some (N-M):=by unfold ZUb;rw [if_pos ⟨ZVb (by omega),hle⟩]
   have hb:bl (N-M)≤bl N:=Zpe (by omega);rw [e6,Zd,e4,Za,Za,key _ _ (by omega) ?_,Za];rw [sx,sy];unfold sgn;by_cases h:x.num<0
   ·have h2:¬ y.num<0:=fun k=>hs ⟨fun _=>k,fun _=>h⟩;simp [h,h2];omega
   ·have h2:y.num<0:=by
     rcases Int.lt_or_le y.num 0 with k | k
     ·exact k
     ·exact absurd ⟨fun q=>absurd q h,fun q=>absurd q (by omega)⟩ hs
    simp [h,h2];omega
  ·have e6:decide ((0:Int)≤Zea N M)=false:=by
    unfold Zea;rw [if_pos (by omega)];rfl
   have e4:ZUb M N=some (M-N):=by unfold ZUb;rw [if_pos ⟨ZVb (by omega),by omega⟩]
   have hb:bl (M-N)≤bl M:=Zpe (by omega);rw [e6,Ze,e4,Za,Za,key _ _ (by omega) ?_,Za];rw [sx,sy];unfold sgn;by_cases h:x.num<0
   ·have h2:¬ y.num<0:=fun k=>hs ⟨fun _=>k,fun _=>h⟩;simp [h,h2];omega
   ·have h2:y.num<0:=by
     rcases Int.lt_or_le y.num 0 with k | k
     ·exact k
     ·exact absurd ⟨fun q=>absurd q h,fun q=>absurd q (by omega)⟩ hs
    simp [h,h2];omega
theorem Zwx {x y z:Rat} (h:ZZ x y=some z):ZSn x y=some z:=by
 unfold ZZ at h;split at h
 ·rename_i hh;rw [radd_eq hh.1 hh.2,h]
 ·cases h
end Go.Eng
set_option maxRecDepth 100000
set_option maxHeartbeats 4000000
namespace Go.Eng
open Go.Proofs Go.RowKit
noncomputable def Zmk:FuncId×Con:=(103,⟨[.leaf 4,.leaf 4],[.leaf 4],fun p=>ZZ p.1 p.2⟩)
theorem Z7l:KQ Zmk:=Zh (Zz (C:=cf2 [(43,1),(45,4)] [ZWd,Zfj,ZYh,Z9h,Zvj,Zcp]) .no Tryz.func103 [] (fun v vals x z ha hz=>.trans (by kernel_rfl) (Zwx hz)) ⟨Z9d,Zwl,Zul,Zql,ZXn,ZIs,tr⟩)
end Go.Eng
set_option maxRecDepth 100000
set_option maxHeartbeats 4000000
namespace Go.Eng
open Go.Proofs Go.RowKit
noncomputable def Zmn:FuncId×Con:=(63,⟨[.pair (.leaf 4) (.pair (.leaf 4) (.pair (.leaf 4) (.leaf 4))),.pair (.leaf 4) (.pair (.leaf 4) (.pair (.leaf 4) (.leaf 4)))],[.pair (.leaf 4) (.pair (.leaf 4) (.pair (.leaf 4) (.leaf 4)))],fun p=>Zwi p.1 p.2⟩)
theorem ZBu:KQ Zmn:=Zh (Zu (C:=cf0 [Zmk] [] [] []) .no Tryz.func63 [] (fun _=>by kernel_rfl) ⟨Z7l,tr⟩)
theorem rneg_eq {x:Rat} (h:okQ x):Ztn x=some (-x):=by
 obtain ⟨h1,h2⟩:=h;unfold Ztn Zfc Zza;rw [Za,if_pos ⟨Zde h1,Zde h2,x.den_nz⟩,Za];congr 1;have e:sgn (!(decide (x.num<0))) x.num.natAbs = -x.num:=by
  unfold sgn;by_cases h:x.num<0
  ·simp [h];omega
  ·simp [h];omega
 rw [e];exact Rat.mkRat_self (-x)
theorem Zpw {x z:Rat} (h:ZMd x=some z):Ztn x=some z:=by
 unfold ZMd at h;split at h
 ·rename_i hh;rw [rneg_eq hh,h]
 ·cases h
end Go.Eng
set_option maxRecDepth 100000
set_option maxHeartbeats 4000000
namespace Go.Eng
open Go.Proofs Go.RowKit
noncomputable def ZMp:FuncId×Con:=(107,⟨[.leaf 4],[.leaf 4],fun p=>ZMd p⟩)
theorem rneg_k:KQ ZMp:=Zh (Zz (C:=cf2 [(43,1),(45,4)] [ZWd,ZYh]) .no Tryz.func107 [] (fun v vals x z ha hz=>.trans (by kernel_rfl) (Zpw hz)) ⟨Z9d,Zul,tr⟩)
end Go.Eng
set_option maxRecDepth 100000
set_option maxHeartbeats 4000000
namespace Go.Eng
open Go.Proofs Go.RowKit
noncomputable def Z6q:FuncId×Con:=(76,⟨[.pair (.leaf 4) (.pair (.leaf 4) (.pair (.leaf 4) (.leaf 4)))],[.pair (.leaf 4) (.pair (.leaf 4) (.pair (.leaf 4) (.leaf 4)))],fun p=>Zlk p⟩)
theorem sNeg_k:KQ Z6q:=Zh (Zu (C:=cf0 [ZMp] [] [] []) .no Tryz.func76 [] (fun _=>by kernel_rfl) ⟨rneg_k,tr⟩)
end Go.Eng
set_option maxRecDepth 100000
set_option maxHeartbeats 4000000
namespace Go.Eng
open Go.Proofs Go.RowKit
noncomputable def ZDi:FuncId×Con:=(74,⟨[.pair (.leaf 4) (.pair (.leaf 4) (.pair (.leaf 4) (.leaf 4))),.pair (.leaf 4) (.pair (.leaf 4) (.pair (.leaf 4) (.leaf 4)))],[.pair (.leaf 4) (.pair (.leaf 4) (.pair (.leaf 4) (.leaf 4)))],fun p=>Z0e p.1 p.2⟩)
theorem ZAl:KQ ZDi:=Zh (Zu (C:=cf0 [Zmn,Z6q] [] [] []) .no Tryz.func74 [] (fun _=>by kernel_rfl) ⟨ZBu,sNeg_k,tr⟩)
end Go.Eng
set_option maxRecDepth 100000
set_option maxHeartbeats 4000000
namespace Go.Eng
open Go.Proofs Go.RowKit
noncomputable def Z4t:FuncId×Con:=(149,⟨[.pair (.pair (.leaf 4) (.pair (.leaf 4) (.pair (.leaf 4) (.leaf 4)))) (.pair (.leaf 4) (.pair (.leaf 4) (.pair (.leaf 4) (.leaf 4)))),.pair (.pair (.leaf 4) (.pair (.leaf 4) (.pair (.leaf 4) (.leaf 4)))) (.pair (.leaf 4) (.pair (.leaf 4) (.pair (.leaf 4) (.leaf 4))))],[.pair (.pair (.leaf 4) (.pair (.leaf 4) (.pair (.leaf 4) (.leaf 4)))) (.pair (.leaf 4) (.pair (.leaf 4) (.pair (.leaf 4) (.leaf 4))))],fun p=>ZOu p.1 p.2⟩)
theorem wSub_k:KQ Z4t:=Zh (Zu (C:=cf0 [ZDi] [] [] []) .no Tryz.func149 [] (fun _=>by kernel_rfl) ⟨ZAl,tr⟩)
end Go.Eng
set_option maxRecDepth 100000
set_option maxHeartbeats 4000000
namespace Go.Eng
open Go.Proofs Go.RowKit
noncomputable def ZMq:FuncId×Con:=(117,⟨[.pair (.pair (.leaf 4) (.pair (.leaf 4) (.pair (.leaf 4) (.leaf 4)))) (.pair (.leaf 4) (.pair (.leaf 4) (.pair (.leaf 4) (.leaf 4)))),.pair (.pair (.leaf 4) (.pair (.leaf 4) (.pair (.leaf 4) (.leaf 4)))) (.pair (.leaf 4) (.pair (.leaf 4) (.pair (.leaf 4) (.leaf 4))))],[.bool],fun p=>ZTu p.1 p.2⟩)
theorem wSame_k:KQ ZMq:=Zh (Zu (C:=cf0 [ZPr,Z4t] [] [] []) .no Tryz.func117 [] (fun _=>by kernel_rfl) ⟨wZero_k,wSub_k,tr⟩)
end Go.Eng
set_option maxRecDepth 100000
set_option maxHeartbeats 4000000
namespace Go.Eng
open Go.Proofs Go.RowKit
noncomputable def is2_q:FuncId×Con:=(87,⟨[.slice (.leaf 3),.slice (.pair (.pair (.leaf 4) (.pair (.leaf 4) (.pair (.leaf 4) (.leaf 4)))) (.pair (.leaf 4) (.pair (.leaf 4) (.pair (.leaf 4) (.leaf 4)))))],[.bool],fun p=>is2_m p.1 p.2⟩)
theorem is2_k:KQ is2_q:=Zh (Zu (C:=cf0 [is1_q,Zjm,ZMq] [] [] []) (.n (.n (.f (.n (.f (.cut ⟨⟨[0,1,12],[],[.s 13 (.dat (.int .i64))]⟩,[(.exit 0,⟨[],[],[]⟩),(.ret,⟨[],[],[.s 1000 (.dat .bool)]⟩)]⟩ (.f (.n (.n (.f (.f (.n (.f (.j [0,1,12,13] [] [.s 42 (.dat .bool)] .no)))))))))))))) Tryz.func87 [] (fun _=>by kernel_rfl) ⟨is1_k,Z9q,wSame_k,tr⟩)
end Go.Eng
set_option maxRecDepth 100000
set_option maxHeartbeats 4000000
namespace Go.Eng
open Go.Proofs Go.RowKit
noncomputable def Zjs:FuncId×Con:=(41,⟨[.slice (.slice (.leaf 3)),.slice (.slice (.pair (.pair (.leaf 4) (.pair (.leaf 4) (.pair (.leaf 4) (.leaf 4)))) (.pair (.leaf 4) (.pair (.leaf 4) (.pair (.leaf 4) (.leaf 4))))))],[.bool],fun p=>Z4l p.1 p.2⟩)
theorem Zwz:KQ Zjs:=Zh (Zu (C:=cf0 [is2_q] [] [] []) (.n (.n (.f (.n (.f (.cut ⟨⟨[0,1,12],[],[.s 13 (.dat (.int .i64))]⟩,[(.exit 0,⟨[],[],[]⟩),(.ret,⟨[],[],[.s 1000 (.dat .bool)]⟩)]⟩ .no)))))) Tryz.func41 [] (fun _=>by kernel_rfl) ⟨is2_k,tr⟩)
end Go.Eng
set_option maxRecDepth 100000
set_option maxHeartbeats 4000000
namespace Go.Eng
open Go.Proofs Go.RowKit
noncomputable def ZJr:FuncId×Con:=(8,⟨[],[.bool],fun _=>ZCg⟩)
theorem ZyA:KQ ZJr:=Zh (Zu (C:=cf0 [ZEp,Ztq,Zfl,Z6p,Zxp,Zbt,Zjs,Zcl] [] [] []) (.n (.n (.n (.n (.n (.n (.n (.n (.f (.j [] [] [.s 0 (.dat .bool)] .no)))))))))) Tryz.func8 [] (fun _=>by kernel_rfl) ⟨ZlA,ZpB,ZQo,Zhy,ZRx,Zux,Zwz,ZPo,tr⟩)
end Go.Eng
set_option maxRecDepth 100000
set_option maxHeartbeats 4000000
namespace Go.Eng
open Go.Proofs Go.RowKit
noncomputable def Zyo:FuncId×Con:=(65,⟨[.slice (.slice (.leaf 3)),.slice (.leaf 3),.slice (.leaf 3)],[.bool],fun p=>Z3e p.1 p.2.1 p.2.2⟩)
theorem ZNs:KQ Zyo:=Zh (Zu (C:=cf0 [Zgg,Z4j] [] [] []) (.n (.f (.j [] [] [.s 6 (.dat .bool)] .no))) Tryz.func65 [] (fun _=>by kernel_rfl) ⟨ZCh,Z6n,tr⟩)
end Go.Eng
set_option maxRecDepth 100000
set_option maxHeartbeats 4000000
namespace Go.Eng
open Go.Proofs Go.RowKit
noncomputable def Zmu:FuncId×Con:=(67,⟨[.slice (.slice (.leaf 3)),.slice (.leaf 3),.slice (.leaf 3),.slice (.leaf 3)],[.bool],fun p=>Zpj p.1 p.2.1 p.2.2.1 p.2.2.2⟩)
theorem ZZx:KQ Zmu:=Zh (Zu (C:=cf0 [Zzi,Z0k] [] [] []) (.n (.n (.f (.j [] [] [.s 8 (.dat .bool)] .no)))) Tryz.func67 [] (fun _=>by kernel_rfl) ⟨Zqk,ZCm,tr⟩)
end Go.Eng
set_option maxRecDepth 100000
set_option maxHeartbeats 4000000
namespace Go.Eng
open Go.Proofs Go.RowKit
noncomputable def Zpu:FuncId×Con:=(68,⟨[.slice (.slice (.leaf 3)),.slice (.leaf 3),.slice (.leaf 3)],[.slice (.leaf 3)],fun p=>ZHk p.1 p.2.1 p.2.2⟩)
theorem ZFy : KQ Zpu := Zh (Zu (C := cf0 [Zuj, Zgg, Z4f] [] [ZAf] [((59, "Sub"), 212)]) (.n (.n (.f (.n (.f (.l [0, 1, 2, 10] [] [.s 7 (.own 59 (.leaf 3)), .s 11 (.dat (.int .i64))] 0 [0] [] [.s 7 (.own 59 (.leaf 3))] .no)))))) Tryz.func68 [] (fun _ => by kernel_rfl) ⟨Zhn, ZCh, Zdh, tr⟩ ⟨Zyg, tr⟩ ⟨ZQh, tr⟩)
end Go.Eng
set_option maxRecDepth 100000
set_option maxHeartbeats 4000000
namespace Go.Eng
open Go.Proofs Go.RowKit
noncomputable def Znr:FuncId×Con:=(28,⟨[.slice (.slice (.leaf 3)),.slice (.leaf 3),.slice (.leaf 3),.pair .bool (.pair (.slice (.leaf 3)) (.pair (.slice (.leaf 3)) (.slice (.leaf 3))))],[.bool],fun p=>Zvg p.1 p.2.1 p.2.2.1 p.2.2.2⟩)
theorem Zdy : KQ Znr := Zh (Zu (C := cf0 [ZAk, Z8h, Zyo, Zgg, Zmu, Zpu, ZSe, Z4f] [] [] [((59, "Sign"), 211), ((59, "Sub"), 212)]) (.n (.n (.two (.n (.f (.f (.j [] [] [.s 8 (.dat .bool)] .no)))) (.f (.f (.j [1, 2, 7] [] [.s 88 (.dat .bool)] .no)))))) Tryz.func28 [] (fun _ => by kernel_rfl) ⟨Zum, Zyl, ZNs, ZCh, ZZx, ZFy, Zug, Zdh, tr⟩ tr ⟨ZNg, ZQh, tr⟩)
theorem ZUx {x y z:Rat} (h:ZX x y=some z):Zut x y=some z:=by
 unfold ZX at h;split at h
 ·rename_i hh;obtain ⟨⟨a1,a2⟩,b1,b2⟩:=hh
  cases h
  unfold Zut Zfc;have p1:=Zgb x.num.natAbs y.num.natAbs;have p3:=Zgb x.den y.den;have e1:Zva x.num.natAbs y.num.natAbs=some (x.num.natAbs*y.num.natAbs):=by unfold Zva;rw [if_pos ⟨ZVb (by omega),ZVb (by omega)⟩]
  have e3:Zva x.den y.den=some (x.den*y.den):=by unfold Zva;rw [if_pos ⟨ZVb (by omega),ZVb (by omega)⟩]
  rw [e1,Za,Za,Za,e3,Za];unfold Zza;rw [if_pos ⟨Zde (by omega),Zde (by omega),Nat.mul_ne_zero x.den_nz y.den_nz⟩,Za];have e:sgn ((decide (x.num<0)) != (decide (y.num<0))) (x.num.natAbs*y.num.natAbs)=x.num*y.num:=by
   have eN:((x.num.natAbs*y.num.natAbs:Nat):Int)=(x.num.natAbs:Int)*y.num.natAbs:=by simp
   unfold sgn;rw [eN];by_cases h:x.num<0
   ·have hx:(x.num.natAbs:Int) = -x.num:=by omega
    by_cases h2:y.num<0
    ·have hy:(y.num.natAbs:Int) = -y.num:=by omega
     simp [h,h2,hx,hy,Int.neg_mul,Int.mul_neg]
    ·have hy:(y.num.natAbs:Int)=y.num:=by omega
     simp [h,h2,hx,hy,Int.neg_mul,Int.mul_neg]
   ·have hx:(x.num.natAbs:Int)=x.num:=by omega
    by_cases h2:y.num<0
    ·have hy:(y.num.natAbs:Int) = -y.num:=by omega
     simp [h,h2,hx,hy,Int.neg_mul,Int.mul_neg]
    ·have hy:(y.num.natAbs:Int)=y.num:=by omega
     simp [h,h2,hx,hy,Int.neg_mul,Int.mul_neg]
  rw [e,← Rat.mul_def']
 ·cases h
end Go.Eng
set_option maxRecDepth 100000
set_option maxHeartbeats 4000000
namespace Go.Eng
open Go.Proofs Go.RowKit
noncomputable def Zdm:FuncId×Con:=(104,⟨[.leaf 4,.leaf 4],[.leaf 4],fun p=>ZX p.1 p.2⟩)
theorem ZLp:KQ Zdm:=Zh (Zz (C:=cf2 [(43,1),(45,4)] [ZWd,ZYh,Z9h]) .no Tryz.func104 [] (fun v vals x z ha hz=>.trans (by kernel_rfl) (ZUx hz)) ⟨Z9d,Zul,Zql,tr⟩)
end Go.Eng
set_option maxRecDepth 100000
set_option maxHeartbeats 4000000
namespace Go.Eng
open Go.Proofs Go.RowKit
noncomputable def Zls:FuncId×Con:=(64,⟨[.pair (.leaf 4) (.pair (.leaf 4) (.pair (.leaf 4) (.leaf 4))),.pair (.leaf 4) (.pair (.leaf 4) (.pair (.leaf 4) (.leaf 4)))],[.pair (.leaf 4) (.pair (.leaf 4) (.pair (.leaf 4) (.leaf 4)))],fun p=>ZUl p.1 p.2⟩)
theorem sMul_k:KQ Zls:=Zh (Zu (C:=cf0 [Zrh,ZTe,Zmk,Zdm] [] [] []) (.n (.n (.f (.n (.f (.unroll 5 (.f (.n (.f (.f (.n (.f (.unroll 5 .no))))))))))))) Tryz.func64 [] (fun _=>by kernel_rfl) ⟨Zhj,Zig,Z7l,ZLp,tr⟩)
end Go.Eng
set_option maxRecDepth 100000
set_option maxHeartbeats 4000000
namespace Go.Eng
open Go.Proofs Go.RowKit
noncomputable def Zgo:FuncId×Con:=(22,⟨[.slice (.pair (.leaf 4) (.pair (.leaf 4) (.pair (.leaf 4) (.leaf 4)))),.slice (.pair (.leaf 4) (.pair (.leaf 4) (.pair (.leaf 4) (.leaf 4))))],[.pair (.leaf 4) (.pair (.leaf 4) (.pair (.leaf 4) (.leaf 4)))],fun p=>Ztf p.1 p.2⟩)
theorem Znq:KQ Zgo:=Zh (Zu (C:=cf0 [Zrh,ZTe,Zmn,Zls] [] [] []) (.n (.n (.f (.n (.f (.l [0,1,4,5] [] [.s 6 (.dat (.int .i64)),.l (.sl 5) (.box 47 (.dat (.pair (.leaf 4) (.pair (.leaf 4) (.pair (.leaf 4) (.leaf 4))))))] 0 [4,5] [] [.l (.sl 5) (.box 47 (.dat (.pair (.leaf 4) (.pair (.leaf 4) (.pair (.leaf 4) (.leaf 4))))))] .no)))))) Tryz.func22 [] (fun _=>by kernel_rfl) ⟨Zhj,Zig,ZBu,sMul_k,tr⟩)
end Go.Eng
set_option maxRecDepth 100000
set_option maxHeartbeats 4000000
namespace Go.Eng
open Go.Proofs Go.RowKit
noncomputable def ZKn:FuncId×Con:=(36,⟨[.slice (.slice (.pair (.leaf 4) (.pair (.leaf 4) (.pair (.leaf 4) (.leaf 4))))),.slice (.pair (.leaf 4) (.pair (.leaf 4) (.pair (.leaf 4) (.leaf 4)))),.slice (.pair (.leaf 4) (.pair (.leaf 4) (.pair (.leaf 4) (.leaf 4))))],[.bool],fun p=>ZQf p.1 p.2.1 p.2.2⟩)
theorem Z1q:KQ ZKn:=Zh (Zu (C:=cf0 [] [] [] []) (.n (.two (.f (.j [0] [] [.s 29 (.dat .bool)] .no)) (.f (.n (.f (.cut ⟨⟨[0],[],[.s 7 (.dat (.int .i64))]⟩,[(.exit 0,⟨[],[],[]⟩),(.ret,⟨[],[],[.s 1000 (.dat .bool)]⟩)]⟩ (.f (.n (.f (.f (.f (.j [0,7] [] [.s 61 (.dat .bool)] .no)))))))))))) Tryz.func36 [] (fun _=>by kernel_rfl))
theorem Zgx {x:Rat} {z:Int} (h:Zwd x=some z):Zqv x=some z:=by
 unfold Zwd at h
 cases h
 unfold Zqv Zlc;rw [Za];by_cases h0:x=0
 ·subst h0;rfl
 ·have:=Z0m h0;rw [decide_eq_false h0,Ze];by_cases h1:x.num<0
  ·rw [decide_eq_true h1,Zd,Int.sign_eq_neg_one_of_neg h1]
  ·rw [decide_eq_false h1,Ze,Int.sign_eq_one_of_pos (by omega)]
end Go.Eng
set_option maxRecDepth 100000
set_option maxHeartbeats 4000000
namespace Go.Eng
open Go.Proofs Go.RowKit
noncomputable def Zdp:FuncId×Con:=(99,⟨[.leaf 4],[.int .i64],fun p=>Zwd p⟩)
theorem Zht:KQ Zdp:=Zh (Zz (C:=cf2 [(43,1),(45,4)] [Zyj]) .no Tryz.func99 [] (fun v vals x z ha hz=>.trans (by kernel_rfl) (Zgx hz)) ⟨Zgn,tr⟩)
end Go.Eng
set_option maxRecDepth 100000
set_option maxHeartbeats 4000000
namespace Go.Eng
open Go.Proofs Go.RowKit
noncomputable def ZYp:FuncId×Con:=(167,⟨[.int .i64],[.leaf 4],fun p=>ZEu p⟩)
theorem runit_k:KQ ZYp:=Zh (Zu (C:=cf0 [ZWd,Zth] [] [] []) .no Tryz.func167 [] (fun _=>by kernel_rfl) ⟨Z9d,ZPh,tr⟩)
end Go.Eng
set_option maxRecDepth 100000
set_option maxHeartbeats 4000000
namespace Go.Eng
open Go.Proofs Go.RowKit
noncomputable def Z2q:FuncId×Con:=(132,⟨[.int .i64],[.leaf 4],fun p=>ZLn p⟩)
theorem Zqz:KQ Z2q:=Zh (Zu (C:=cf0 [ZWd,Zth,ZYp] [] [] []) .no Tryz.func132 [] (fun _=>by kernel_rfl) ⟨Z9d,ZPh,runit_k,tr⟩)
end Go.Eng
set_option maxRecDepth 100000
set_option maxHeartbeats 4000000
namespace Go.Eng
open Go.Proofs Go.RowKit
noncomputable def ZBp:FuncId×Con:=(168,⟨[.leaf 1],[.leaf 1],fun p=>Zyp p⟩)
theorem rRoot_k:KQ ZBp:=Zh (Zu (C:=cf0 [Zfj,ZNk,Zvj,Zto,Zth,Zyn] [] [] []) (.n (.n (.n (.f (.cut ⟨⟨[0],[],[.s 3 (.dat (.leaf 1))]⟩,[(.ret,⟨[],[],[.s 1000 (.dat (.leaf 1))]⟩)]⟩ .no))))) Tryz.func168 [] (fun _=>by kernel_rfl) ⟨Zwl,ZWn,ZXn,ZEt,ZPh,Zdq,tr⟩)
end Go.Eng
set_option maxRecDepth 100000
set_option maxHeartbeats 4000000
namespace Go.Eng
open Go.Proofs Go.RowKit
noncomputable def Zrs:FuncId×Con:=(133,⟨[.int .u64,.int .i64],[.leaf 4],fun p=>ZPf p.1 p.2⟩)
theorem Zcx:KQ Zrs:=Zh (Zu (C:=cf0 [ZWd,ZVh,Zth,ZBp] [] [] []) .no Tryz.func133 [] (fun _=>by kernel_rfl) ⟨Z9d,ZGl,ZPh,rRoot_k,tr⟩)
end Go.Eng
set_option maxRecDepth 100000
set_option maxHeartbeats 4000000
namespace Go.Eng
open Go.Proofs Go.RowKit
noncomputable def ZDu:FuncId×Con:=(98,⟨[.pair (.leaf 4) (.pair (.leaf 4) (.pair (.leaf 4) (.leaf 4))),.int .i64],[.leaf 4,.leaf 4],fun p=>ZPj p.1 p.2⟩)
theorem ZSA:KQ ZDu:=Zh (Zu (C:=cf0 [Zdp,Zmk,Zdm,Z2q,Zrs] [] [] []) (.n (.n (.n (.n (.f (.n (.f (.unroll 4 (.f (.n (.f (.f (.n (.n (.f (.n (.j [1,2,4,5,6,7,8,9,10,12,13] [] [.l (.sl 12) (.box 45 (.dat (.leaf 4))),.l (.sl 13) (.box 45 (.dat (.leaf 4)))] .no))))))))))))))))) Tryz.func98 [] (fun _=>by kernel_rfl) ⟨Zht,Z7l,ZLp,Zqz,Zcx,tr⟩)
end Go.Eng
set_option maxRecDepth 100000
set_option maxHeartbeats 4000000
namespace Go.Eng
open Go.Proofs Go.RowKit
noncomputable def Zei:FuncId×Con:=(59,⟨[.pair (.leaf 4) (.pair (.leaf 4) (.pair (.leaf 4) (.leaf 4)))],[.int .i64],fun p=>ZZe p⟩)
theorem Znk:KQ Zei:=Zh (Zu (C:=cf0 [ZAn,ZDu,Zdp] [] [] []) (.n (.n (.n (.f (.cut ⟨⟨[1],[],[.s 3 (.dat (.int .i64))]⟩,[(.ret,⟨[],[],[.s 1000 (.dat (.int .i64))]⟩)]⟩ .no))))) Tryz.func59 [] (fun _=>by kernel_rfl) ⟨ZKt,ZSA,Zht,tr⟩)
end Go.Eng
set_option maxRecDepth 100000
set_option maxHeartbeats 4000000
namespace Go.Eng
open Go.Proofs Go.RowKit
noncomputable def Zuo:FuncId×Con:=(58,⟨[.slice (.pair (.leaf 4) (.pair (.leaf 4) (.pair (.leaf 4) (.leaf 4))))],[.bool],fun p=>ZGh p⟩)
theorem ZZp:KQ Zuo:=Zh (Zu (C:=cf0 [Zei] [] [] []) (.n (.f (.n (.f (.cut ⟨⟨[0],[],[.s 3 (.dat (.int .i64))]⟩,[(.exit 0,⟨[],[],[]⟩),(.ret,⟨[],[],[.s 1000 (.dat .bool)]⟩)]⟩ .no))))) Tryz.func58 [] (fun _=>by kernel_rfl) ⟨Znk,tr⟩)
end Go.Eng
set_option maxRecDepth 100000
set_option maxHeartbeats 4000000
namespace Go.Eng
open Go.Proofs Go.RowKit
noncomputable def Zpv:FuncId×Con:=(61,⟨[.pair (.leaf 4) (.pair (.leaf 4) (.pair (.leaf 4) (.leaf 4))),.pair (.leaf 4) (.pair (.leaf 4) (.pair (.leaf 4) (.leaf 4)))],[.int .i64],fun p=>ZSh p.1 p.2⟩)
theorem sCmp_k:KQ Zpv:=Zh (Zu (C:=cf0 [Zei,ZDi] [] [] []) .no Tryz.func61 [] (fun _=>by kernel_rfl) ⟨Znk,ZAl,tr⟩)
end Go.Eng
set_option maxRecDepth 100000
set_option maxHeartbeats 4000000
namespace Go.Eng
open Go.Proofs Go.RowKit
noncomputable def ZWt:FuncId×Con:=(60,⟨[.slice (.slice (.pair (.leaf 4) (.pair (.leaf 4) (.pair (.leaf 4) (.leaf 4))))),.int .i64],[.slice (.pair (.leaf 4) (.pair (.leaf 4) (.pair (.leaf 4) (.leaf 4))))],fun p=>Z6k p.1 p.2⟩)
theorem ZTv:KQ ZWt:=Zh (Zu (C:=cf0 [] [] [] []) (.n (.n (.f (.n (.f (.l [0,1] [] [.s 5 (.own 47 (.pair (.leaf 4) (.pair (.leaf 4) (.pair (.leaf 4) (.leaf 4))))),.s 6 (.dat (.int .i64))] 0 [] [] [.s 5 (.own 47 (.pair (.leaf 4) (.pair (.leaf 4) (.pair (.leaf 4) (.leaf 4)))))] .no)))))) Tryz.func60 [] (fun _=>by kernel_rfl))
end Go.Eng
set_option maxRecDepth 100000
set_option maxHeartbeats 4000000
namespace Go.Eng
open Go.Proofs Go.RowKit
noncomputable def Z1n:FuncId×Con:=(75,⟨[.slice (.slice (.pair (.leaf 4) (.pair (.leaf 4) (.pair (.leaf 4) (.leaf 4)))))],[.int .i64],fun p=>Zbj p⟩)
theorem ZIr:KQ Z1n:=Zh (Zu (C:=cf0 [] [] [] []) .no Tryz.func75 [] (fun _=>by kernel_rfl))
end Go.Eng
set_option maxRecDepth 100000
set_option maxHeartbeats 4000000
namespace Go.Eng
open Go.Proofs Go.RowKit
noncomputable def ZFu:FuncId×Con:=(106,⟨[.slice (.pair (.leaf 4) (.pair (.leaf 4) (.pair (.leaf 4) (.leaf 4)))),.slice (.pair (.leaf 4) (.pair (.leaf 4) (.pair (.leaf 4) (.leaf 4))))],[.slice (.pair (.leaf 4) (.pair (.leaf 4) (.pair (.leaf 4) (.leaf 4))))],fun p=>Zll p.1 p.2⟩)
theorem ZmB:KQ ZFu:=Zh (Zu (C:=cf0 [ZDi] [] [] []) (.n (.n (.f (.n (.f (.l [0,1] [] [.s 5 (.own 47 (.pair (.leaf 4) (.pair (.leaf 4) (.pair (.leaf 4) (.leaf 4))))),.s 6 (.dat (.int .i64))] 0 [] [] [.s 5 (.own 47 (.pair (.leaf 4) (.pair (.leaf 4) (.pair (.leaf 4) (.leaf 4)))))] .no)))))) Tryz.func106 [] (fun _=>by kernel_rfl) ⟨ZAl,tr⟩)
end Go.Eng
set_option maxRecDepth 100000
set_option maxHeartbeats 4000000
namespace Go.Eng
open Go.Proofs Go.RowKit
noncomputable def ZYt:FuncId×Con:=(73,⟨[.slice (.slice (.pair (.leaf 4) (.pair (.leaf 4) (.pair (.leaf 4) (.leaf 4))))),.slice (.pair (.leaf 4) (.pair (.leaf 4) (.pair (.leaf 4) (.leaf 4)))),.slice (.pair (.leaf 4) (.pair (.leaf 4) (.pair (.leaf 4) (.leaf 4))))],[.bool],fun p=>ZDj p.1 p.2.1 p.2.2⟩)
theorem Z8A:KQ ZYt:=Zh (Zu (C:=cf0 [Zgo,Zuo,Zei,ZWt,Z1n,ZFu] [] [] []) (.n (.two (.f (.j [0,1,2] [] [.s 29 (.dat .bool)] .no)) (.f (.n (.f (.cut ⟨⟨[0,1,2],[],[.s 7 (.dat (.int .i64))]⟩,[(.exit 0,⟨[],[],[]⟩),(.ret,⟨[],[],[.s 1000 (.dat .bool)]⟩)]⟩ .no)))))) Tryz.func73 [] (fun _=>by kernel_rfl) ⟨Znq,ZZp,Znk,ZTv,ZIr,ZmB,tr⟩)
end Go.Eng
set_option maxRecDepth 100000
set_option maxHeartbeats 4000000
namespace Go.Eng
open Go.Proofs Go.RowKit
noncomputable def Z7p:FuncId×Con:=(30,⟨[.slice (.slice (.pair (.leaf 4) (.pair (.leaf 4) (.pair (.leaf 4) (.leaf 4))))),.slice (.pair (.leaf 4) (.pair (.leaf 4) (.pair (.leaf 4) (.leaf 4)))),.slice (.pair (.leaf 4) (.pair (.leaf 4) (.pair (.leaf 4) (.leaf 4)))),.bool,.slice (.pair (.leaf 4) (.pair (.leaf 4) (.pair (.leaf 4) (.leaf 4)))),.slice (.pair (.leaf 4) (.pair (.leaf 4) (.pair (.leaf 4) (.leaf 4)))),.slice (.pair (.leaf 4) (.pair (.leaf 4) (.pair (.leaf 4) (.leaf 4))))],[.bool],fun p=>Ztj p.1 p.2.1 p.2.2.1 p.2.2.2.1 p.2.2.2.2.1 p.2.2.2.2.2.1 p.2.2.2.2.2.2⟩)
theorem Z7y:KQ Z7p:=Zh (Zu (C:=cf0 [Zgo,ZKn,Zuo,Zei,Zpv,ZYt,ZDi,Z1n] [] [] []) (.n (.n (.two (.n (.f (.f (.j [] [] [.s 14 (.dat .bool)] .no)))) (.two (.f (.j [0,1,2,4] [] [.s 63 (.dat .bool)] .no)) (.f (.n (.f (.cut ⟨⟨[0,1,2,4],[],[.s 15 (.dat (.int .i64))]⟩,[(.exit 0,⟨[],[],[]⟩),(.ret,⟨[],[],[.s 1000 (.dat .bool)]⟩)]⟩ (.f (.n (.f (.f (.n (.f (.j [0,1,2,4,15] [] [.s 91 (.dat .bool)] .no))))))))))))))) Tryz.func30 [] (fun _=>by kernel_rfl) ⟨Znq,Z1q,ZZp,Znk,sCmp_k,Z8A,ZAl,ZIr,tr⟩)
end Go.Eng
set_option maxRecDepth 100000
set_option maxHeartbeats 4000000
namespace Go.Eng
open Go.Proofs Go.RowKit
noncomputable def Zjt:FuncId×ConO:=(82,⟨[.slice (.leaf 3)],59,.leaf 3,fun p=>Zli p⟩)
theorem Zoy : KO Zjt := Zsp (C := cf0 [Zse] [] [] [((59, "Neg"), 208)]) (.n (.n (.f (.n (.f (.l [6, 7] [] [.s 3 (.own 59 (.leaf 3)), .s 8 (.dat (.int .i64))] 0 [] [] [.s 3 (.own 59 (.leaf 3))] .no)))))) Tryz.func82 [] (fun _ => by kernel_rfl) ⟨Zbf, tr⟩ tr ⟨Z7f, tr⟩
end Go.Eng
set_option maxRecDepth 100000
set_option maxHeartbeats 4000000
namespace Go.Eng
open Go.Proofs Go.RowKit
noncomputable def Zkq:FuncId×Con:=(35,⟨[.slice (.slice (.leaf 3)),.slice (.leaf 3),.slice (.leaf 3)],[.pair .bool (.pair (.slice (.leaf 3)) (.pair (.slice (.leaf 3)) (.slice (.leaf 3)))),.int .i64],fun p=>ZKf p.1 p.2.1 p.2.2⟩)
theorem ZoA:KQ Zkq:=Zh (Zu (C:=cf1 [Zyo,Zgg,ZSm] [42] [ZAf,Zxh,Zjt] [] [Zqo] [] []) (.n (.n (.n (.n (.f (.n (.f (.l [6,8,9,32,33] [.fld (.sl 9) 0,.fld (.sl 9) 1,.fld (.sl 9) 2] [.s 34 (.dat (.int .i64)),.l (.sl 9) (.box 33 (.agg (.cons (.mat 31 59 (.leaf 3)) (.cons (.own 59 (.leaf 3)) (.one (.own 59 (.leaf 3)))))))] 0 [6,8,9] [.fld (.sl 9) 0,.fld (.sl 9) 1,.fld (.sl 9) 2] [.l (.sl 9) (.box 33 (.agg (.cons (.mat 31 59 (.leaf 3)) (.cons (.own 59 (.leaf 3)) (.one (.own 59 (.leaf 3)))))))] .no)))))))) Tryz.func35 [] (fun _=>by kernel_rfl) ⟨ZNs,ZCh,ZNt,tr⟩ ⟨Zyg,Z1j,Zoy,tr⟩ tr tr ⟨ZHr,tr⟩)
end Go.Eng
set_option maxRecDepth 100000
set_option maxHeartbeats 4000000
namespace Go.Eng
open Go.Proofs Go.RowKit
noncomputable def ZGp:FuncId×Con:=(144,⟨[.str,.str],[.str,.bool],fun p=>ZIh p.1 p.2⟩)
theorem Zcz:KQ ZGp:=Zh (Zu (C:=cf0 [] [] [] []) .no Tryz.func144 [(170,Tryz.f170,.r [] [] [.s 1000 (.dat .str),.s 1001 (.dat .bool)] .no),(172,Tryz.f172,.n (.f (.j [] [] [.s 4 (.dat .bool)] .no)))] (fun _=>by kernel_rfl) tr tr tr ⟨⟨Tryz.func170,fun _ _=>by kernel_rfl⟩,⟨Tryz.func172,fun _ _=>by kernel_rfl⟩,tr⟩)
end Go.Eng
set_option maxRecDepth 100000
set_option maxHeartbeats 4000000
namespace Go.Eng
open Go.Proofs Go.RowKit
noncomputable def ZYl:FuncId×Con:=(185,⟨[.str,.int .u8],[.int .i64],fun p=>Zgl p.1 p.2⟩)
theorem idxb_k:ZUd Tryz.prog ZYl.1 ZYl.2:=fun w v vals x z _ ha hz=>by
 obtain ⟨c0,w0,e0,p0,c1,e1,p1⟩:=ha
 subst e0 e1
 obtain ⟨rfl,h0⟩:=p0
 obtain ⟨rfl,h1⟩:=p1
 obtain ⟨h2,h3⟩:=ZYv hz
 subst h2
 exact .inr ⟨_,fun w=>idxb_v (show ZId Tryz.prog 185 Extern.BytealgIndexByte.indexByte from ⟨_,Tryz.func185,by kernel_rfl,by kernel_rfl,by kernel_rfl,by kernel_rfl⟩) _ _ w,_,rfl,⟨rfl,idxb_in h0⟩⟩
end Go.Eng
set_option maxRecDepth 100000
set_option maxHeartbeats 4000000
namespace Go.Eng
open Go.Proofs Go.RowKit
noncomputable def Z7s:FuncId×Con:=(178,⟨[.str,.str],[.int .i64],fun p=>Zdk p.1 p.2⟩)
theorem ZFw:KQ Z7s:=Zh (Zu (C:=cf0 [ZYl] [] [] []) (.n (.n (.f (.f (.f (.j [0,1,5] [] [.s 16 (.dat .bool)] .no)))))) Tryz.func178 [(181,Tryz.f181,.no)] (fun _=>by kernel_rfl) ⟨idxb_k,tr⟩ tr tr ⟨⟨Tryz.func181,fun _ _=>by kernel_rfl⟩,tr⟩)
end Go.Eng
set_option maxRecDepth 100000
set_option maxHeartbeats 4000000
namespace Go.Eng
open Go.Proofs Go.RowKit
noncomputable def Zau:FuncId×Con:=(145,⟨[.str,.str],[.str,.str,.bool],fun p=>Z5f p.1 p.2⟩)
theorem tCut_k:KQ Zau:=Zh (Zu (C:=cf0 [Z7s] [] [] []) .no Tryz.func145 [(171,Tryz.f171,.r [] [] [.s 1000 (.dat .str),.s 1001 (.dat .str),.s 1002 (.dat .bool)] .no)] (fun _=>by kernel_rfl) ⟨ZFw,tr⟩ tr tr ⟨⟨Tryz.func171,fun _ _=>by kernel_rfl⟩,tr⟩)
end Go.Eng
set_option maxRecDepth 100000
set_option maxHeartbeats 4000000
namespace Go.Eng
open Go.Proofs Go.RowKit
noncomputable def Z7q:FuncId×Con:=(146,⟨[.str],[.bool],fun p=>ZFe p⟩)
theorem ZSv:KQ Z7q:=Zh (Zu (C:=cf0 [] [] [] []) (.n (.f (.n (.f (.cut ⟨⟨[0,5],[],[.s 6 (.dat (.int .i64))]⟩,[(.exit 0,⟨[0],[],[]⟩),(.ret,⟨[],[],[.s 1000 (.dat .bool)]⟩)]⟩ (.f (.n (.n (.f (.f (.n (.f (.j [0,5,6] [] [.s 18 (.dat .bool)] .no))))))))))))) Tryz.func146 [] (fun _=>by kernel_rfl))
end Go.Eng
set_option maxRecDepth 100000
set_option maxHeartbeats 4000000
namespace Go.Eng
open Go.Proofs Go.RowKit
noncomputable def ZWr:FuncId×Con:=(147,⟨[.str],[.leaf 1],fun p=>ZCc p⟩)
theorem rRead_k:KQ ZWr:=Zh (Zu (C:=cf0 [ZVh,Z9h,Zvj] [] [] []) (.n (.n (.f (.n (.f (.l [0] [] [.s 3 (.dat (.leaf 1)),.s 4 (.dat (.int .i64))] 0 [] [] [.s 3 (.dat (.leaf 1))] .no)))))) Tryz.func147 [] (fun _=>by kernel_rfl) ⟨ZGl,Zql,ZXn,tr⟩)
end Go.Eng
set_option maxRecDepth 100000
set_option maxHeartbeats 4000000
namespace Go.Eng
open Go.Proofs Go.RowKit
noncomputable def ZZs:FuncId×Con:=(114,⟨[.leaf 3],[.leaf 4],fun p=>Znl p⟩)
theorem Zfw:KQ ZZs:=Zh (Zu (C:=cf0 [Zcl,ZTe,ZWd,ZGp,Zau,Z7q,ZWr] [] [] []) (.n (.n (.n (.two (.n (.j [2,4,5] [] [.s 6 (.dat .str)] .no)) (.f (.f (.j [2,4,5,6] [] [.s 35 (.dat .bool)] .no))))))) Tryz.func114 [] (fun _=>by kernel_rfl) ⟨ZPo,Zig,Z9d,Zcz,tCut_k,ZSv,rRead_k,tr⟩)
end Go.Eng
set_option maxRecDepth 100000
set_option maxHeartbeats 4000000
namespace Go.Eng
open Go.Proofs Go.RowKit
noncomputable def Zmr:FuncId×Con:=(80,⟨[.leaf 3],[.pair (.leaf 4) (.pair (.leaf 4) (.pair (.leaf 4) (.leaf 4)))],fun p=>Z9j p⟩)
theorem ZgA:KQ Zmr:=Zh (Zu (C:=cf0 [Zrh,ZZs] [] [] []) .no Tryz.func80 [] (fun _=>by kernel_rfl) ⟨Zhj,Zfw,tr⟩)
end Go.Eng
set_option maxRecDepth 100000
set_option maxHeartbeats 4000000
namespace Go.Eng
open Go.Proofs Go.RowKit
noncomputable def Zwt:FuncId×Con:=(37,⟨[.slice (.leaf 3)],[.slice (.pair (.leaf 4) (.pair (.leaf 4) (.pair (.leaf 4) (.leaf 4))))],fun p=>ZIf p⟩)
theorem Zmy:KQ Zwt:=Zh (Zu (C:=cf0 [Zmr] [] [] []) (.n (.n (.f (.n (.f (.l [6,7] [] [.s 3 (.own 47 (.pair (.leaf 4) (.pair (.leaf 4) (.pair (.leaf 4) (.leaf 4))))),.s 8 (.dat (.int .i64))] 0 [] [] [.s 3 (.own 47 (.pair (.leaf 4) (.pair (.leaf 4) (.pair (.leaf 4) (.leaf 4)))))] .no)))))) Tryz.func37 [] (fun _=>by kernel_rfl) ⟨ZgA,tr⟩)
end Go.Eng
set_option maxRecDepth 100000
set_option maxHeartbeats 4000000
namespace Go.Eng
open Go.Proofs Go.RowKit
noncomputable def ZQy:FuncId×Con:=(6,⟨[.slice (.slice (.pair (.int .i64) (.int .i64))),.slice (.pair (.int .i64) (.int .i64)),.slice (.pair (.int .i64) (.int .i64))],[.bool],fun p=>Zoj p.1 p.2.1 p.2.2⟩)
theorem ZtA:KR ZQy:=Zu (C:=cf0 [ZVq,ZJr,ZHl,ZRk,Zfl,Zkm,Znr,Z7p,Zkq,ZKn,Zwt] [] [] []) (.n (.n (.n (.n (.n (.n (.two (.n (.f (.f (.j [] [] [.s 6 (.dat .bool)] .no)))) (.n (.f (.j [] [] [.s 6 (.dat .bool)] .no)))))))))) Tryz.func6 [] (fun _=>by kernel_rfl) ⟨ZCv,ZyA,ZTn,Z2o,ZQo,Z4q,Zdy,Z7y,ZoA,Z1q,Zmy,tr⟩
theorem ZLw {w0:World} {v0:Zb} (hv:VIn v0 w0) {c0:List Value} {a:(List (List (Int×Int)))} (p0:Rep.rel (Zv (Zv (ZDa (Zf .i64) (Zf .i64)))) v0 c0 a) {c1:List Value} {lo:(List (Int×Int))} (p1:Rep.rel (Zv (ZDa (Zf .i64) (Zf .i64))) v0 c1 lo) {c2:List Value} {hi:(List (Int×Int))} (p2:Rep.rel (Zv (ZDa (Zf .i64) (Zf .i64))) v0 c2 hi) {z:Bool} (hm:Zoj a lo hi=some z):Ret Tryz.prog 6 #[(Zv (Zv (ZDa (Zf .i64) (Zf .i64)))).val c0,(Zv (ZDa (Zf .i64) (Zf .i64))).val c1,(Zv (ZDa (Zf .i64) (Zf .i64))).val c2] w0 v0 (fun y v'=>∃ r0,y=Zhd.val r0∧Zhd.rel v' r0 z):=(ZtA w0 v0 [(Zv (Zv (ZDa (Zf .i64) (Zf .i64)))).val c0,(Zv (ZDa (Zf .i64) (Zf .i64))).val c1,(Zv (ZDa (Zf .i64) (Zf .i64))).val c2] (a,lo,hi) z hv ⟨c0,_,rfl,p0,c1,_,rfl,p1,c2,rfl,p2⟩ hm).2
end Go.Eng
