/- Lemmas towards the statement: the engine of the walks, the functions' models, laws and walks, part 7. Conditions: as each states. -/
import Derived.Test.YtgacnnhdglbfcaaGreatProg
import Derived.Test.YtgacnnhdglbfcaaGreatLsF
set_option linter.all false
noncomputable section
set_option maxRecDepth 100000
namespace Go.Eng
theorem ZRu {x:Rat} {z:List UInt8} (h:Zbk x=some z):Zhq x=some z:=by
 unfold Zbk at h;split at h
 ·rename_i hh;obtain ⟨h1,h2⟩:=hh
  cases h
  unfold Zhq ZVh;have l1:=ZNm (n:=x.num.natAbs) (by omega);have l2:=ZNm (n:=x.den) (by omega);rw [if_pos (Zvd h1),Za];have e0:ifb (decide (x.num<0)) (bnd (ZKc x) fun y136=>some (!(y136))) (some false)=some (decide (x.num<0)):=by
   unfold ZKc;by_cases h:x.num<0
   ·have:x≠0:=fun e=>by subst e;simp at h
    rw [decide_eq_true h,Zf,Za,decide_eq_false this];rfl
   ·rw [decide_eq_false h,Ze]
  rw [e0,Za];have e1:ifb (decide (x.num<0)) (bnd (ZEb ([45]++Z5a x.num.natAbs)) fun y80=>some (([45]:List UInt8)++Z5a x.num.natAbs)) (some (Z5a x.num.natAbs))=some ((if x.num<0 then [45] else [])++Z5a x.num.natAbs):=by
   by_cases h:x.num<0
   ·rw [decide_eq_true h,Zf,ZJe (by simp;omega),Za,if_pos h]
   ·rw [decide_eq_false h,Ze,if_neg h];rfl
  rw [e1,Za];unfold txtQ ZUb Zud;have l3:((if x.num<0 then [45] else [])++Z5a x.num.natAbs:List UInt8).length≤4398046511105:=by
   rw [List.length_append];split <;> simp <;> omega
  generalize ((if x.num<0 then [45] else [])++Z5a x.num.natAbs:List UInt8)=s at *;rw [Za,Zdp,Za,Za,Zet];by_cases hd:x.den=1
  ·rw [hd];simp [ifb,bnd]
  ·have:=x.den_nz;rw [decide_eq_true (by omega),Zf,ZJe (by simp;omega),Za,if_pos (Zvd h2),Za,ZJe (by simp;omega),Za,Za,if_neg hd];simp
 ·cases h
end Go.Eng
set_option maxRecDepth 100000
set_option maxHeartbeats 4000000
namespace Go.Eng
open Go.Proofs Go.RowKit
def Z8k:FuncId×Con:=(100,⟨[.leaf 4],[.str],fun p=>Zbk p⟩)
theorem rtext_i (x:Rat):Zl ⟨Tryz.prog,[(47,1),(49,4)],[ZGf,ZXk,Zig,Z4c],[],[],[],[],[]⟩ [] Tryz.f100 (.two .no (.two .no (.two (.two (.cut ⟨⟨[],[],[]⟩,[(.norm,⟨[1,3],[],[.s 13 (.dat .bool)]⟩)]⟩ .no) (.cut ⟨⟨[],[],[]⟩,[(.norm,⟨[1],[],[.s 3 (.dat .str)]⟩)]⟩ .no)) (.two (.two .no (.cut ⟨⟨[],[],[]⟩,[(.norm,⟨[],[],[.s 3 (.dat .str)]⟩)]⟩ .no)) .no)))) [.leaf 4] [.str] (x)=Zhq x:=by kernel_rfl
theorem rtext_k:Zk Tryz.prog Z8k.1 Z8k.2:=Zm (C:=⟨Tryz.prog,[(47,1),(49,4)],[ZGf,ZXk,Zig,Z4c],[],[],[],[],[]⟩) ⟨Z8o,ZUy,Zgp,ZQi,trivial⟩ trivial trivial trivial (inl:=[]) trivial (ann:=.two .no (.two .no (.two (.two (.cut ⟨⟨[],[],[]⟩,[(.norm,⟨[1,3],[],[.s 13 (.dat .bool)]⟩)]⟩ .no) (.cut ⟨⟨[],[],[]⟩,[(.norm,⟨[1],[],[.s 3 (.dat .str)]⟩)]⟩ .no)) (.two (.two .no (.cut ⟨⟨[],[],[]⟩,[(.norm,⟨[],[],[.s 3 (.dat .str)]⟩)]⟩ .no)) .no)))) Tryz.func100 (fun _ _=>by kernel_rfl) rfl fun v vals x z ha hz=>(rtext_i x).trans (ZRu hz)
end Go.Eng
set_option maxRecDepth 100000
set_option maxHeartbeats 4000000
namespace Go.Eng
open Go.Proofs Go.RowKit
def Zrn:FuncId×Con:=(55,⟨[.leaf 3,.leaf 4],[.bool],fun p=>ZVi p.1 p.2⟩)
theorem is1_i (x:Rat) (y:Rat):Zl ⟨Tryz.prog,[(38,0),(40,2),(42,3),(47,1),(49,4)],[ZBi,Z8k],[],[],[],[],[]⟩ [] Tryz.f55 .no [.leaf 3,.leaf 4] [.bool] (x,y)=ZVi x y:=by kernel_rfl
theorem is1_k:Zk Tryz.prog Zrn.1 Zrn.2:=Zm (C:=⟨Tryz.prog,[(38,0),(40,2),(42,3),(47,1),(49,4)],[ZBi,Z8k],[],[],[],[],[]⟩) ⟨Zut,rtext_k,trivial⟩ trivial trivial trivial (inl:=[]) trivial (ann:=.no) Tryz.func55 (fun _ _=>by kernel_rfl) rfl fun v vals x z ha hz=>(is1_i x.1 x.2).trans (hz)
end Go.Eng
set_option maxRecDepth 100000
set_option maxHeartbeats 4000000
namespace Go.Eng
open Go.Proofs Go.RowKit
def Znh:FuncId×Con:=(98,⟨[.pair (.leaf 4) (.pair (.leaf 4) (.pair (.leaf 4) (.leaf 4)))],[.bool],fun p=>Zwg p⟩)
theorem sZero_i (x:Rat×Rat×Rat×Rat):Zl ⟨Tryz.prog,[(38,0),(40,2),(42,3),(47,1),(49,4)],[ZGf],[],[],[],[],[]⟩ [] Tryz.f98 (.two .no (.two (.cut ⟨⟨[],[],[]⟩,[(.norm,⟨[],[],[.s 2 (.dat .bool)]⟩)]⟩ .no) .no)) [.pair (.leaf 4) (.pair (.leaf 4) (.pair (.leaf 4) (.leaf 4)))] [.bool] (x)=Zwg x:=by kernel_rfl
theorem Zrr:Zk Tryz.prog Znh.1 Znh.2:=Zm (C:=⟨Tryz.prog,[(38,0),(40,2),(42,3),(47,1),(49,4)],[ZGf],[],[],[],[],[]⟩) ⟨Z8o,trivial⟩ trivial trivial trivial (inl:=[]) trivial (ann:=(.two .no (.two (.cut ⟨⟨[],[],[]⟩,[(.norm,⟨[],[],[.s 2 (.dat .bool)]⟩)]⟩ .no) .no))) Tryz.func98 (fun _ _=>by kernel_rfl) rfl (fun v vals x z ha hz=>(sZero_i x).trans hz)
end Go.Eng
set_option maxRecDepth 100000
set_option maxHeartbeats 4000000
namespace Go.Eng
open Go.Proofs Go.RowKit
def Zad:FuncId×Con:=(49,⟨[.pair (.pair (.leaf 4) (.pair (.leaf 4) (.pair (.leaf 4) (.leaf 4)))) (.pair (.leaf 4) (.pair (.leaf 4) (.pair (.leaf 4) (.leaf 4))))],[.bool],fun p=>Z7e p⟩)
theorem wZero_i (x:(Rat×Rat×Rat×Rat)×Rat×Rat×Rat×Rat):Zl ⟨Tryz.prog,[(38,0),(40,2),(42,3),(47,1),(49,4)],[Znh],[],[],[],[],[]⟩ [] Tryz.f49 (.two .no (.two (.cut ⟨⟨[],[],[]⟩,[(.norm,⟨[],[],[.s 2 (.dat .bool)]⟩)]⟩ .no) .no)) [.pair (.pair (.leaf 4) (.pair (.leaf 4) (.pair (.leaf 4) (.leaf 4)))) (.pair (.leaf 4) (.pair (.leaf 4) (.pair (.leaf 4) (.leaf 4))))] [.bool] (x)=Z7e x:=by kernel_rfl
theorem Zlj:Zk Tryz.prog Zad.1 Zad.2:=Zm (C:=⟨Tryz.prog,[(38,0),(40,2),(42,3),(47,1),(49,4)],[Znh],[],[],[],[],[]⟩) ⟨Zrr,trivial⟩ trivial trivial trivial (inl:=[]) trivial (ann:=(.two .no (.two (.cut ⟨⟨[],[],[]⟩,[(.norm,⟨[],[],[.s 2 (.dat .bool)]⟩)]⟩ .no) .no))) Tryz.func49 (fun _ _=>by kernel_rfl) rfl (fun v vals x z ha hz=>(wZero_i x).trans hz)
end Go.Eng
set_option maxRecDepth 100000
set_option maxHeartbeats 4000000
namespace Go.Eng
open Go.Proofs Go.RowKit
def ZZm:FuncId×Con:=(165,⟨[.leaf 1,.leaf 1],[.leaf 1],fun p=>ZCh p.1 p.2⟩)
theorem rsum_i (a:Nat) (b:Nat):Zl ⟨Tryz.prog,[(47,1),(49,4)],[ZDb],[],[],[],[],[]⟩ [] Tryz.f165 (.two .no (.two .no (.two .no (.two (.two .no (.cut ⟨⟨[],[],[]⟩,[(.norm,⟨[],[],[.s 5 (.own 196 (.int .u32)),.s 6 (.dat (.int .u64))]⟩)]⟩ (.two (.cut ⟨⟨[0,1],[],[.s 5 (.own 196 (.int .u32)),.s 6 (.dat (.int .u64)),.s 7 (.dat (.int .i64))]⟩,[(.exit 0,⟨[],[],[.s 5 (.own 196 (.int .u32)),.s 6 (.dat (.int .u64))]⟩)]⟩ (.two (.two (.two (.cut ⟨⟨[],[],[]⟩,[(.norm,⟨[0,1,5,6,7],[],[.s 18 (.dat .bool)]⟩)]⟩ .no) .no) (.two (.two (.two (.two .no (.cut ⟨⟨[],[],[]⟩,[(.norm,⟨[0,1,5,7],[],[.s 6 (.dat (.int .u64))]⟩)]⟩ .no)) (.two (.two .no (.cut ⟨⟨[],[],[]⟩,[(.norm,⟨[0,1,5,7],[],[.s 6 (.dat (.int .u64))]⟩)]⟩ .no)) .no)) .no) .no)) .no)) .no))) .no)))) [.leaf 1,.leaf 1] [.leaf 1] (a,b)=ZTl a b:=by kernel_rfl
theorem rsum_k:Zk Tryz.prog ZZm.1 ZZm.2:=Zm (C:=⟨Tryz.prog,[(47,1),(49,4)],[ZDb],[],[],[],[],[]⟩) ⟨ZJf,trivial⟩ trivial trivial trivial (inl:=[]) trivial (ann:=.two .no (.two .no (.two .no (.two (.two .no (.cut ⟨⟨[],[],[]⟩,[(.norm,⟨[],[],[.s 5 (.own 196 (.int .u32)),.s 6 (.dat (.int .u64))]⟩)]⟩ (.two (.cut ⟨⟨[0,1],[],[.s 5 (.own 196 (.int .u32)),.s 6 (.dat (.int .u64)),.s 7 (.dat (.int .i64))]⟩,[(.exit 0,⟨[],[],[.s 5 (.own 196 (.int .u32)),.s 6 (.dat (.int .u64))]⟩)]⟩ (.two (.two (.two (.cut ⟨⟨[],[],[]⟩,[(.norm,⟨[0,1,5,6,7],[],[.s 18 (.dat .bool)]⟩)]⟩ .no) .no) (.two (.two (.two (.two .no (.cut ⟨⟨[],[],[]⟩,[(.norm,⟨[0,1,5,7],[],[.s 6 (.dat (.int .u64))]⟩)]⟩ .no)) (.two (.two .no (.cut ⟨⟨[],[],[]⟩,[(.norm,⟨[0,1,5,7],[],[.s 6 (.dat (.int .u64))]⟩)]⟩ .no)) .no)) .no) .no)) .no)) .no))) .no)))) Tryz.func165 (fun _ _=>by kernel_rfl) rfl fun v vals x z ha hz=>(rsum_i x.1 x.2).trans (ZYu hz)
theorem radd_eq {x y:Rat} (h:smQ x) (h':smQ y):ZJl x y=some (x+y):=by
 obtain ⟨a1,a2⟩:=h;obtain ⟨b1,b2⟩:=h';unfold ZJl ZUb;have p1:=Zob x.num.natAbs y.den;have p2:=Zob y.num.natAbs x.den;have p3:=Zob x.den y.den;have p4:=ZIp (x.num.natAbs*y.den) (y.num.natAbs*x.den);have hd:x.den*y.den≠0:=Nat.mul_ne_zero x.den_nz y.den_nz;have e1:Zqa x.num.natAbs y.den=some (x.num.natAbs*y.den):=by unfold Zqa;rw [if_pos ⟨ZBb (by omega),ZBb (by omega)⟩]
 have e2:Zqa y.num.natAbs x.den=some (y.num.natAbs*x.den):=by unfold Zqa;rw [if_pos ⟨ZBb (by omega),ZBb (by omega)⟩]
 have e3:Zqa x.den y.den=some (x.den*y.den):=by unfold Zqa;rw [if_pos ⟨ZBb (by omega),ZBb (by omega)⟩]
 have eN:((x.num.natAbs*y.den:Nat):Int)=(x.num.natAbs:Int)*y.den:=by simp
 have eM:((y.num.natAbs*x.den:Nat):Int)=(y.num.natAbs:Int)*x.den:=by simp
 have key:∀ (s:Bool) (n:Nat),bl n≤1099511627776→sgn s n=x.num*y.den+y.num*x.den→Znb s n (x.den*y.den)=some (x+y):=by
  intro s n hn he;unfold Znb;rw [if_pos ⟨Zvd hn,Zvd (by omega),hd⟩,he,← Rat.add_def']
 rw [Za,Za,e1,Za,e2,Za,e3];obtain ⟨N,hN⟩:∃ N,N=x.num.natAbs*y.den:=⟨_,rfl⟩;obtain ⟨M,hM⟩:∃ M,M=y.num.natAbs*x.den:=⟨_,rfl⟩;rw [← hN] at p1 p4 eN ⊢;rw [← hM] at p2 p4 eM ⊢;have sx:x.num*(y.den:Int)=if x.num<0 then -(N:Int) else N:=by
  split
  ·rw [eN,← Int.neg_mul];congr 1;omega
  ·rw [eN];congr 1;omega
 have sy:y.num*(x.den:Int)=if y.num<0 then -(M:Int) else M:=by
  split
  ·rw [eM,← Int.neg_mul];congr 1;omega
  ·rw [eM];congr 1;omega
 by_cases hs:(x.num<0)↔(y.num<0)
 ·have e4:ZCh N M=some (N+M):=by unfold ZCh;rw [if_pos ⟨ZBb (by omega),ZBb (by omega)⟩]
  have e5:((decide (x.num<0))==(decide (y.num<0)))=true:=by
   by_cases h:x.num<0
   ·simp [h,hs.1 h]
   ·have h2:¬ y.num<0:=fun k=>h (hs.2 k);simp [h,h2]
  rw [e5,Zf,e4,Za,Za,key _ _ (by omega) ?_,Za];rw [sx,sy];unfold sgn;by_cases h:x.num<0
  ·have h2:=hs.1 h;simp [h,h2];omega
  ·have h2:¬ y.num<0:=fun k=>h (hs.2 k);simp [h,h2]
 ·have e5:((decide (x.num<0))==(decide (y.num<0)))=false:=by
   apply beq_false_of_ne;intro h;exact hs (by by_cases k:x.num<0 <;> by_cases k2:y.num<0 <;> simp_all)
  rw [e5,Ze];unfold Zud;rw [Za];by_cases hle:M≤N
  ·have e6:decide ((0:Int)≤Zka N M)=true:=by
    unfold Zka;rw [if_neg (by omega)];split <;> rfl
   have e4:Zbc N M=some (N-M):=by unfold Zbc;rw [if_pos ⟨ZBb (by omega),hle⟩]
   have hb:bl (N-M)≤bl N:=ZSe (by omega);rw [e6,Zf,e4,Za,Za,key _ _ (by omega) ?_,Za];rw [sx,sy];unfold sgn;by_cases h:x.num<0
   ·have h2:¬ y.num<0:=fun k=>hs ⟨fun _=>k,fun _=>h⟩;simp [h,h2];omega
   ·have h2:y.num<0:=by
     rcases Int.lt_or_le y.num 0 with k | k
     ·exact k
     ·exact absurd ⟨fun q=>absurd q h,fun q=>absurd q (by omega)⟩ hs
    simp [h,h2];omega
  ·have e6:decide ((0:Int)≤Zka N M)=false:=by
    unfold Zka;rw [if_pos (by omega)];rfl
   have e4:Zbc M N=some (M-N):=by unfold Zbc;rw [if_pos ⟨ZBb (by omega),by omega⟩]
   have hb:bl (M-N)≤bl M:=ZSe (by omega);rw [e6,Ze,e4,Za,Za,key _ _ (by omega) ?_,Za];rw [sx,sy];unfold sgn;by_cases h:x.num<0
   ·have h2:¬ y.num<0:=fun k=>hs ⟨fun _=>k,fun _=>h⟩;simp [h,h2];omega
   ·have h2:y.num<0:=by
     rcases Int.lt_or_le y.num 0 with k | k
     ·exact k
     ·exact absurd ⟨fun q=>absurd q h,fun q=>absurd q (by omega)⟩ hs
    simp [h,h2];omega
theorem ZJx {x y z:Rat} (h:ZCa x y=some z):ZJl x y=some z:=by
 unfold ZCa at h;split at h
 ·rename_i hh;rw [radd_eq hh.1 hh.2,h]
 ·cases h
end Go.Eng
set_option maxRecDepth 100000
set_option maxHeartbeats 4000000
namespace Go.Eng
open Go.Proofs Go.RowKit
def Z4h:FuncId×Con:=(137,⟨[.leaf 4,.leaf 4],[.leaf 4],fun p=>ZCa p.1 p.2⟩)
theorem radd_i (x:Rat) (y:Rat):Zl ⟨Tryz.prog,[(47,1),(49,4)],[Zuc,Zig,Z4c,Zme,ZZm,Zpi],[],[],[],[],[]⟩ [] Tryz.f137 .no [.leaf 4,.leaf 4] [.leaf 4] (x,y)=ZJl x y:=by kernel_rfl
theorem ZHr:Zk Tryz.prog Z4h.1 Z4h.2:=Zm (C:=⟨Tryz.prog,[(47,1),(49,4)],[Zuc,Zig,Z4c,Zme,ZZm,Zpi],[],[],[],[],[]⟩) ⟨Z7g,Zgp,ZQi,Zel,rsum_k,Zvt,trivial⟩ trivial trivial trivial (inl:=[]) trivial (ann:=.no) Tryz.func137 (fun _ _=>by kernel_rfl) rfl fun v vals x z ha hz=>(radd_i x.1 x.2).trans (ZJx hz)
end Go.Eng
set_option maxRecDepth 100000
set_option maxHeartbeats 4000000
namespace Go.Eng
open Go.Proofs Go.RowKit
def Zde:FuncId×Con:=(104,⟨[.pair (.leaf 4) (.pair (.leaf 4) (.pair (.leaf 4) (.leaf 4))),.pair (.leaf 4) (.pair (.leaf 4) (.pair (.leaf 4) (.leaf 4)))],[.pair (.leaf 4) (.pair (.leaf 4) (.pair (.leaf 4) (.leaf 4)))],fun p=>ZZe p.1 p.2⟩)
theorem sAdd_i (x:Rat×Rat×Rat×Rat) (y:Rat×Rat×Rat×Rat):Zl ⟨Tryz.prog,[(38,0),(40,2),(42,3),(47,1),(49,4)],[Z4h],[],[],[],[],[]⟩ [] Tryz.f104 .no [.pair (.leaf 4) (.pair (.leaf 4) (.pair (.leaf 4) (.leaf 4))),.pair (.leaf 4) (.pair (.leaf 4) (.pair (.leaf 4) (.leaf 4)))] [.pair (.leaf 4) (.pair (.leaf 4) (.pair (.leaf 4) (.leaf 4)))] (x,y)=ZZe x y:=by kernel_rfl
theorem ZZl:Zk Tryz.prog Zde.1 Zde.2:=Zm (C:=⟨Tryz.prog,[(38,0),(40,2),(42,3),(47,1),(49,4)],[Z4h],[],[],[],[],[]⟩) ⟨ZHr,trivial⟩ trivial trivial trivial (inl:=[]) trivial (ann:=.no) Tryz.func104 (fun _ _=>by kernel_rfl) rfl (fun v vals x z ha hz=>(sAdd_i x.1 x.2).trans hz)
theorem rneg_eq {x:Rat} (h:okQ x):Zvl x=some (-x):=by
 obtain ⟨h1,h2⟩:=h;unfold Zvl ZUb Znb;rw [Za,if_pos ⟨Zvd h1,Zvd h2,x.den_nz⟩,Za];congr 1;have e:sgn (!(decide (x.num<0))) x.num.natAbs = -x.num:=by
  unfold sgn;by_cases h:x.num<0
  ·simp [h];omega
  ·simp [h];omega
 rw [e];exact Rat.mkRat_self (-x)
theorem ZHu {x z:Rat} (h:Z4b x=some z):Zvl x=some z:=by
 unfold Z4b at h;split at h
 ·rename_i hh;rw [rneg_eq hh,h]
 ·cases h
end Go.Eng
set_option maxRecDepth 100000
set_option maxHeartbeats 4000000
namespace Go.Eng
open Go.Proofs Go.RowKit
def Zci:FuncId×Con:=(138,⟨[.leaf 4],[.leaf 4],fun p=>Z4b p⟩)
theorem rneg_i (x:Rat):Zl ⟨Tryz.prog,[(47,1),(49,4)],[Zuc,Z4c],[],[],[],[],[]⟩ [] Tryz.f138 .no [.leaf 4] [.leaf 4] (x)=Zvl x:=by kernel_rfl
theorem Zts:Zk Tryz.prog Zci.1 Zci.2:=Zm (C:=⟨Tryz.prog,[(47,1),(49,4)],[Zuc,Z4c],[],[],[],[],[]⟩) ⟨Z7g,ZQi,trivial⟩ trivial trivial trivial (inl:=[]) trivial (ann:=.no) Tryz.func138 (fun _ _=>by kernel_rfl) rfl fun v vals x z ha hz=>(rneg_i x).trans (ZHu hz)
end Go.Eng
set_option maxRecDepth 100000
set_option maxHeartbeats 4000000
namespace Go.Eng
open Go.Proofs Go.RowKit
def ZBf:FuncId×Con:=(105,⟨[.pair (.leaf 4) (.pair (.leaf 4) (.pair (.leaf 4) (.leaf 4)))],[.pair (.leaf 4) (.pair (.leaf 4) (.pair (.leaf 4) (.leaf 4)))],fun p=>Z2e p⟩)
theorem sNeg_i (x:Rat×Rat×Rat×Rat):Zl ⟨Tryz.prog,[(38,0),(40,2),(42,3),(47,1),(49,4)],[Zci],[],[],[],[],[]⟩ [] Tryz.f105 .no [.pair (.leaf 4) (.pair (.leaf 4) (.pair (.leaf 4) (.leaf 4)))] [.pair (.leaf 4) (.pair (.leaf 4) (.pair (.leaf 4) (.leaf 4)))] (x)=Z2e x:=by kernel_rfl
theorem ZNn:Zk Tryz.prog ZBf.1 ZBf.2:=Zm (C:=⟨Tryz.prog,[(38,0),(40,2),(42,3),(47,1),(49,4)],[Zci],[],[],[],[],[]⟩) ⟨Zts,trivial⟩ trivial trivial trivial (inl:=[]) trivial (ann:=.no) Tryz.func105 (fun _ _=>by kernel_rfl) rfl (fun v vals x z ha hz=>(sNeg_i x).trans hz)
end Go.Eng
set_option maxRecDepth 100000
set_option maxHeartbeats 4000000
namespace Go.Eng
open Go.Proofs Go.RowKit
def Zbh:FuncId×Con:=(102,⟨[.pair (.leaf 4) (.pair (.leaf 4) (.pair (.leaf 4) (.leaf 4))),.pair (.leaf 4) (.pair (.leaf 4) (.pair (.leaf 4) (.leaf 4)))],[.pair (.leaf 4) (.pair (.leaf 4) (.pair (.leaf 4) (.leaf 4)))],fun p=>Zog p.1 p.2⟩)
theorem sSub_i (x:Rat×Rat×Rat×Rat) (y:Rat×Rat×Rat×Rat):Zl ⟨Tryz.prog,[(38,0),(40,2),(42,3),(47,1),(49,4)],[Zde,ZBf],[],[],[],[],[]⟩ [] Tryz.f102 .no [.pair (.leaf 4) (.pair (.leaf 4) (.pair (.leaf 4) (.leaf 4))),.pair (.leaf 4) (.pair (.leaf 4) (.pair (.leaf 4) (.leaf 4)))] [.pair (.leaf 4) (.pair (.leaf 4) (.pair (.leaf 4) (.leaf 4)))] (x,y)=Zog x y:=by kernel_rfl
theorem Zlq:Zk Tryz.prog Zbh.1 Zbh.2:=Zm (C:=⟨Tryz.prog,[(38,0),(40,2),(42,3),(47,1),(49,4)],[Zde,ZBf],[],[],[],[],[]⟩) ⟨ZZl,ZNn,trivial⟩ trivial trivial trivial (inl:=[]) trivial (ann:=.no) Tryz.func102 (fun _ _=>by kernel_rfl) rfl (fun v vals x z ha hz=>(sSub_i x.1 x.2).trans hz)
end Go.Eng
set_option maxRecDepth 100000
set_option maxHeartbeats 4000000
namespace Go.Eng
open Go.Proofs Go.RowKit
def ZGh:FuncId×Con:=(78,⟨[.pair (.pair (.leaf 4) (.pair (.leaf 4) (.pair (.leaf 4) (.leaf 4)))) (.pair (.leaf 4) (.pair (.leaf 4) (.pair (.leaf 4) (.leaf 4)))),.pair (.pair (.leaf 4) (.pair (.leaf 4) (.pair (.leaf 4) (.leaf 4)))) (.pair (.leaf 4) (.pair (.leaf 4) (.pair (.leaf 4) (.leaf 4))))],[.pair (.pair (.leaf 4) (.pair (.leaf 4) (.pair (.leaf 4) (.leaf 4)))) (.pair (.leaf 4) (.pair (.leaf 4) (.pair (.leaf 4) (.leaf 4))))],fun p=>Zoh p.1 p.2⟩)
theorem wSub_i (x:(Rat×Rat×Rat×Rat)×Rat×Rat×Rat×Rat) (y:(Rat×Rat×Rat×Rat)×Rat×Rat×Rat×Rat):Zl ⟨Tryz.prog,[(38,0),(40,2),(42,3),(47,1),(49,4)],[Zbh],[],[],[],[],[]⟩ [] Tryz.f78 .no [.pair (.pair (.leaf 4) (.pair (.leaf 4) (.pair (.leaf 4) (.leaf 4)))) (.pair (.leaf 4) (.pair (.leaf 4) (.pair (.leaf 4) (.leaf 4)))),.pair (.pair (.leaf 4) (.pair (.leaf 4) (.pair (.leaf 4) (.leaf 4)))) (.pair (.leaf 4) (.pair (.leaf 4) (.pair (.leaf 4) (.leaf 4))))] [.pair (.pair (.leaf 4) (.pair (.leaf 4) (.pair (.leaf 4) (.leaf 4)))) (.pair (.leaf 4) (.pair (.leaf 4) (.pair (.leaf 4) (.leaf 4))))] (x,y)=Zoh x y:=by kernel_rfl
theorem Z3s:Zk Tryz.prog ZGh.1 ZGh.2:=Zm (C:=⟨Tryz.prog,[(38,0),(40,2),(42,3),(47,1),(49,4)],[Zbh],[],[],[],[],[]⟩) ⟨Zlq,trivial⟩ trivial trivial trivial (inl:=[]) trivial (ann:=.no) Tryz.func78 (fun _ _=>by kernel_rfl) rfl (fun v vals x z ha hz=>(wSub_i x.1 x.2).trans hz)
end Go.Eng
set_option maxRecDepth 100000
set_option maxHeartbeats 4000000
namespace Go.Eng
open Go.Proofs Go.RowKit
def Zlk:FuncId×Con:=(56,⟨[.pair (.pair (.leaf 4) (.pair (.leaf 4) (.pair (.leaf 4) (.leaf 4)))) (.pair (.leaf 4) (.pair (.leaf 4) (.pair (.leaf 4) (.leaf 4)))),.pair (.pair (.leaf 4) (.pair (.leaf 4) (.pair (.leaf 4) (.leaf 4)))) (.pair (.leaf 4) (.pair (.leaf 4) (.pair (.leaf 4) (.leaf 4))))],[.bool],fun p=>Z7j p.1 p.2⟩)
theorem wSame_i (x:(Rat×Rat×Rat×Rat)×Rat×Rat×Rat×Rat) (y:(Rat×Rat×Rat×Rat)×Rat×Rat×Rat×Rat):Zl ⟨Tryz.prog,[(38,0),(40,2),(42,3),(47,1),(49,4)],[Zad,ZGh],[],[],[],[],[]⟩ [] Tryz.f56 .no [.pair (.pair (.leaf 4) (.pair (.leaf 4) (.pair (.leaf 4) (.leaf 4)))) (.pair (.leaf 4) (.pair (.leaf 4) (.pair (.leaf 4) (.leaf 4)))),.pair (.pair (.leaf 4) (.pair (.leaf 4) (.pair (.leaf 4) (.leaf 4)))) (.pair (.leaf 4) (.pair (.leaf 4) (.pair (.leaf 4) (.leaf 4))))] [.bool] (x,y)=Z7j x y:=by kernel_rfl
theorem wSame_k:Zk Tryz.prog Zlk.1 Zlk.2:=Zm (C:=⟨Tryz.prog,[(38,0),(40,2),(42,3),(47,1),(49,4)],[Zad,ZGh],[],[],[],[],[]⟩) ⟨Zlj,Z3s,trivial⟩ trivial trivial trivial (inl:=[]) trivial (ann:=.no) Tryz.func56 (fun _ _=>by kernel_rfl) rfl (fun v vals x z ha hz=>(wSame_i x.1 x.2).trans hz)
end Go.Eng
set_option maxRecDepth 100000
set_option maxHeartbeats 4000000
namespace Go.Eng
open Go.Proofs Go.RowKit
def Zvh:FuncId×Con:=(14,⟨[.slice (.leaf 3),.slice (.pair (.pair (.leaf 4) (.pair (.leaf 4) (.pair (.leaf 4) (.leaf 4)))) (.pair (.leaf 4) (.pair (.leaf 4) (.pair (.leaf 4) (.leaf 4)))))],[.bool],fun p=>Z9c p.1 p.2⟩)
theorem is2_i (x:List Rat) (y:List ((Rat×Rat×Rat×Rat)×Rat×Rat×Rat×Rat)):Zl ⟨Tryz.prog,[(38,0),(40,2),(42,3),(47,1),(49,4)],[ZVc,Zrn,Zlk],[],[],[],[],[]⟩ [] Tryz.f14 (.two .no (.two .no (.two (.two .no (.two (.cut ⟨⟨[0,1,12],[],[.s 13 (.dat (.int .i64))]⟩,[(.exit 0,⟨[],[],[]⟩),(.ret,⟨[],[],[.s 1000 (.dat .bool)]⟩)]⟩ (.two (.two .no (.two .no (.two (.two (.two .no (.two (.cut ⟨⟨[],[],[]⟩,[(.norm,⟨[0,1,12,13],[],[.s 42 (.dat .bool)]⟩)]⟩ .no) .no)) .no) .no))) .no)) .no)) .no))) [.slice (.leaf 3),.slice (.pair (.pair (.leaf 4) (.pair (.leaf 4) (.pair (.leaf 4) (.leaf 4)))) (.pair (.leaf 4) (.pair (.leaf 4) (.pair (.leaf 4) (.leaf 4)))))] [.bool] (x,y)=Z9c x y:=by kernel_rfl
theorem is2_k:Zk Tryz.prog Zvh.1 Zvh.2:=Zm (C:=⟨Tryz.prog,[(38,0),(40,2),(42,3),(47,1),(49,4)],[ZVc,Zrn,Zlk],[],[],[],[],[]⟩) ⟨Zek,is1_k,wSame_k,trivial⟩ trivial trivial trivial (inl:=[]) trivial (ann:=(.two .no (.two .no (.two (.two .no (.two (.cut ⟨⟨[0,1,12],[],[.s 13 (.dat (.int .i64))]⟩,[(.exit 0,⟨[],[],[]⟩),(.ret,⟨[],[],[.s 1000 (.dat .bool)]⟩)]⟩ (.two (.two .no (.two .no (.two (.two (.two .no (.two (.cut ⟨⟨[],[],[]⟩,[(.norm,⟨[0,1,12,13],[],[.s 42 (.dat .bool)]⟩)]⟩ .no) .no)) .no) .no))) .no)) .no)) .no)))) Tryz.func14 (fun _ _=>by kernel_rfl) rfl (fun v vals x z ha hz=>(is2_i x.1 x.2).trans hz)
end Go.Eng
set_option maxRecDepth 100000
set_option maxHeartbeats 4000000
namespace Go.Eng
open Go.Proofs Go.RowKit
def Zmm:FuncId×Con:=(21,⟨[.slice (.slice (.leaf 3)),.slice (.slice (.pair (.pair (.leaf 4) (.pair (.leaf 4) (.pair (.leaf 4) (.leaf 4)))) (.pair (.leaf 4) (.pair (.leaf 4) (.pair (.leaf 4) (.leaf 4))))))],[.bool],fun p=>Z0k p.1 p.2⟩)
theorem Zbx (x:List (List Rat)) (y:List (List ((Rat×Rat×Rat×Rat)×Rat×Rat×Rat×Rat))):Zl ⟨Tryz.prog,[(38,0),(40,2),(42,3),(47,1),(49,4)],[Zvh],[],[],[],[],[]⟩ [] Tryz.f21 (.two .no (.two .no (.two (.two .no (.two (.cut ⟨⟨[0,1,12],[],[.s 13 (.dat (.int .i64))]⟩,[(.exit 0,⟨[],[],[]⟩),(.ret,⟨[],[],[.s 1000 (.dat .bool)]⟩)]⟩ .no) .no)) .no))) [.slice (.slice (.leaf 3)),.slice (.slice (.pair (.pair (.leaf 4) (.pair (.leaf 4) (.pair (.leaf 4) (.leaf 4)))) (.pair (.leaf 4) (.pair (.leaf 4) (.pair (.leaf 4) (.leaf 4))))))] [.bool] (x,y)=Z0k x y:=by kernel_rfl
theorem ZMu:Zk Tryz.prog Zmm.1 Zmm.2:=Zm (C:=⟨Tryz.prog,[(38,0),(40,2),(42,3),(47,1),(49,4)],[Zvh],[],[],[],[],[]⟩) ⟨is2_k,trivial⟩ trivial trivial trivial (inl:=[]) trivial (ann:=(.two .no (.two .no (.two (.two .no (.two (.cut ⟨⟨[0,1,12],[],[.s 13 (.dat (.int .i64))]⟩,[(.exit 0,⟨[],[],[]⟩),(.ret,⟨[],[],[.s 1000 (.dat .bool)]⟩)]⟩ .no) .no)) .no)))) Tryz.func21 (fun _ _=>by kernel_rfl) rfl (fun v vals x z ha hz=>(Zbx x.1 x.2).trans hz)
end Go.Eng
set_option maxRecDepth 100000
set_option maxHeartbeats 4000000
namespace Go.Eng
open Go.Proofs Go.RowKit
def ZSb:FuncId×Con:=(44,⟨[.slice (.slice (.leaf 3))],[.int .i64],fun p=>ZQb p⟩)
theorem Z4y (m:List (List Rat)):Zl ⟨Tryz.prog,[(38,0),(40,2),(42,3),(47,1),(49,4)],[],[],[],[],[],[]⟩ [] Tryz.f44 .no [.slice (.slice (.leaf 3))] [.int .i64] (m)=ZQb m:=by kernel_rfl
theorem Zng:Zk Tryz.prog ZSb.1 ZSb.2:=Zm (C:=⟨Tryz.prog,[(38,0),(40,2),(42,3),(47,1),(49,4)],[],[],[],[],[],[]⟩) trivial trivial trivial trivial (inl:=[]) trivial (ann:=.no) Tryz.func44 (fun _ _=>by kernel_rfl) rfl (fun v vals x z ha hz=>(Z4y x).trans hz)
end Go.Eng
set_option maxRecDepth 100000
set_option maxHeartbeats 4000000
namespace Go.Eng
open Go.Proofs Go.RowKit
def ZRc:FuncId×Con:=(43,⟨[.slice (.slice (.leaf 3))],[.bool],fun p=>Zmc p⟩)
theorem ZJu (m:List (List Rat)):Zl ⟨Tryz.prog,[(38,0),(40,2),(42,3),(47,1),(49,4)],[ZSb],[],[],[],[],[]⟩ [(96,Tryz.f96,.no),(97,Tryz.f97,.no),(131,Tryz.f131,.cut ⟨⟨[],[],[]⟩,[(.ret,⟨[],[],[.s 1000 (.dat (.int .i64))]⟩)]⟩ (.two .no (.two (.two .no (.two (.cut ⟨⟨[0,1,7],[],[.s 8 (.dat (.int .i64))]⟩,[(.exit 0,⟨[],[],[]⟩),(.ret,⟨[],[],[.s 1000 (.dat (.int .i64))]⟩)]⟩ .no) .no)) .no)))] Tryz.f43 (.two .no (.two .no (.two (.cut ⟨⟨[],[],[]⟩,[(.norm,⟨[],[],[.s 2 (.dat .bool)]⟩)]⟩ .no) .no))) [.slice (.slice (.leaf 3))] [.bool] (m)=Zmc m:=by kernel_rfl
theorem Z6i:Zk Tryz.prog ZRc.1 ZRc.2:=Zm (C:=⟨Tryz.prog,[(38,0),(40,2),(42,3),(47,1),(49,4)],[ZSb],[],[],[],[],[]⟩) ⟨Zng,trivial⟩ trivial trivial trivial (inl:=[(96,Tryz.f96,.no),(97,Tryz.f97,.no),(131,Tryz.f131,.cut ⟨⟨[],[],[]⟩,[(.ret,⟨[],[],[.s 1000 (.dat (.int .i64))]⟩)]⟩ (.two .no (.two (.two .no (.two (.cut ⟨⟨[0,1,7],[],[.s 8 (.dat (.int .i64))]⟩,[(.exit 0,⟨[],[],[]⟩),(.ret,⟨[],[],[.s 1000 (.dat (.int .i64))]⟩)]⟩ .no) .no)) .no)))]) ⟨⟨Tryz.func96,fun _ _=>by kernel_rfl⟩,⟨Tryz.func97,fun _ _=>by kernel_rfl⟩,⟨Tryz.func131,fun _ _=>by kernel_rfl⟩,trivial⟩ (ann:=(.two .no (.two .no (.two (.cut ⟨⟨[],[],[]⟩,[(.norm,⟨[],[],[.s 2 (.dat .bool)]⟩)]⟩ .no) .no)))) Tryz.func43 (fun _ _=>by kernel_rfl) rfl (fun v vals x z ha hz=>(ZJu x).trans hz)
end Go.Eng
namespace Go.Eng
open Go.Proofs Go.RowKit
set_option maxRecDepth 100000
theorem Zlt:Elem Tryz.prog 30 42 (ZAb).n 56 (Value.agg #[Value.bool false,Value.slice none 0 0,Value.slice none 0 0]):=⟨Tryz.underlying30,by kernel_rfl,rfl,by decide⟩
def Z3d:FuncId×ConO:=(68,⟨[.slice (.leaf 3)],42,.leaf 3,fun p=>Zzd 56 p⟩)
theorem Zxk:ZNg Tryz.prog Z3d.1 Z3d.2:=fun w v vals x z hv ha hz=>by
 obtain ⟨cs,rfl,p0⟩:=ha
 have hz:Zzd 56 (show List Rat from x)=some z:=hz
 obtain ⟨hb,rfl⟩:=Z5w hz
 obtain ⟨q,n,c,rfl⟩:=ZHg (show (Zu ZAb).rel v cs z from p0)
 refine ⟨fun _ _=>by kernel_rfl,?_⟩
 have hn:n=(show List Rat from z).length:=by obtain ⟨_,_,e,_⟩:=p0;cases e;rfl
 refine Zil (K:=8) (args:=[.slice q n c]) hv Tryz.func68 rfl rfl zl fun fa hS=>?_
 refine sr ?_
 refine mw hS rfl fun fa hS=>?_
 refine oe ?_
 refine wp_seq_k fun N1 hN1=>?_
 refine sr ?_
 refine mv hS rfl fun fa hS=>?_
 refine ov hS rfl (ZEz hS Tryz.underlying30 rfl rfl) fun fa hS=>?_
 refine oe ?_
 cases q with
 | none =>
  refine ZY hS rfl rfl ?_
  have hx:(show List Rat from z)=[]:=by
   obtain ⟨q',c',e,_,_,h3⟩:=p0
   cases e
   rcases h3 with h3 | ⟨_,_,_,_,_,h4,_⟩
   ·exact h3
   ·cases h4
  have hx0:n=0:=by rw [hn,hx];rfl
  refine sr ?_;refine mw hS rfl fun fa hS=>?_;refine oe ?_;refine wp_ret ?_;refine Zjb ?_;have hS2:=hS.nilLoc 42 (ZAb).n;have:=Zcp (P:=Tryz.prog) (A:=ZAb) hS2 (i:=0) (ob:=none) (n:=0) (cap:=0) (cs:=[]) rfl (Z1a (fn:=Tryz.f68) (r:=.tmp 2) rfl (Z0 (t:=2) (y:=.slice (mkA none) 0 0) hS2 rfl)) (l:=([]:List Rat)) ZQd rfl;rw [hx];exact this
 | some ad =>
  refine ZU hS rfl rfl ?_;refine wp_skip ?_;refine Zh (hN1 _ _ ?_);refine sr ?_;obtain ⟨b,wo,hrun,hS⟩:=Z2v Zlt hS;refine ZTb wn rfl zl hrun hS fun fa hS=>?_;refine mv hS rfl fun fa hS=>?_;obtain ⟨b',cap',cs2,wo,hr,hS',hrel⟩:=ZEg (ty:=30) (A:=ZAb) Zlt hS (i:=0) rfl (Rep.mono (Zu ZAb) hS.vst.le p0) (n':=n) (by omega) (by rw [hn];exact hb) (by decide);refine ZTb wn rfl zl (ZTe hS rfl rfl hr) hS' fun fa hS=>?_;refine mw hS rfl fun fa hS=>?_;refine oe ?_;refine wp_ret ?_;exact Zcp hS (i:=0) rfl (Z1a rfl (Z0 hS rfl)) hrel hn
end Go.Eng
set_option maxRecDepth 100000
set_option maxHeartbeats 4000000
namespace Go.Eng
open Go.Proofs Go.RowKit
def Z7k:FuncId×Con:=(222,⟨[.leaf 3,.leaf 3],[.leaf 3],fun p=>ZSl p.1 p.2⟩)
theorem qOf_i (x:Rat) (y:Rat):Zl ⟨Tryz.prog,[(38,0),(40,2),(42,3),(47,1),(49,4)],[],[],[],[],[],[]⟩ [] Tryz.f222 .no [.leaf 3,.leaf 3] [.leaf 3] (x,y)=ZSl x y:=by kernel_rfl
theorem qOf_k:Zk Tryz.prog Z7k.1 Z7k.2:=Zm (C:=⟨Tryz.prog,[(38,0),(40,2),(42,3),(47,1),(49,4)],[],[],[],[],[],[]⟩) trivial trivial trivial trivial (inl:=[]) trivial (ann:=.no) Tryz.func222 (fun _ _=>by kernel_rfl) rfl (fun v vals x z ha hz=>(qOf_i x.1 x.2).trans hz)
end Go.Eng
set_option maxRecDepth 100000
namespace Go.Eng
open Go.Proofs Go.RowKit
theorem ZVo : ∀ y w, (method (Tryz.prog.types.size + Made.depth) 42 y "Add").run Tryz.prog w = .ok (215, y) w := fun _ _ => by kernel_rfl
theorem ZJs : ∀ y w, (method (Tryz.prog.types.size + Made.depth) 42 y "Cmp").run Tryz.prog w = .ok (216, y) w := fun _ _ => by kernel_rfl
theorem Z3z : ∀ y w, (method (Tryz.prog.types.size + Made.depth) 42 y "Conj").run Tryz.prog w = .ok (217, y) w := fun _ _ => by kernel_rfl
theorem ZRr : ∀ y w, (method (Tryz.prog.types.size + Made.depth) 42 y "Div").run Tryz.prog w = .ok (218, y) w := fun _ _ => by kernel_rfl
theorem Zwk : ∀ y w, (method (Tryz.prog.types.size + Made.depth) 42 y "Mul").run Tryz.prog w = .ok (219, y) w := fun _ _ => by kernel_rfl
theorem ZZk : ∀ y w, (method (Tryz.prog.types.size + Made.depth) 42 y "Neg").run Tryz.prog w = .ok (221, y) w := fun _ _ => by kernel_rfl
theorem Zpy : ∀ y w, (method (Tryz.prog.types.size + Made.depth) 42 y "Of").run Tryz.prog w = .ok (222, y) w := fun _ _ => by kernel_rfl
theorem Z1u : ∀ y w, (method (Tryz.prog.types.size + Made.depth) 42 y "Same").run Tryz.prog w = .ok (223, y) w := fun _ _ => by kernel_rfl
theorem Zuo : ∀ y w, (method (Tryz.prog.types.size + Made.depth) 42 y "Sign").run Tryz.prog w = .ok (173, y) w := fun _ _ => by kernel_rfl
theorem Zks : ∀ y w, (method (Tryz.prog.types.size + Made.depth) 42 y "Sub").run Tryz.prog w = .ok (224, y) w := fun _ _ => by kernel_rfl
theorem Zwn : ∀ y w, (method (Tryz.prog.types.size + Made.depth) 42 y "Zero").run Tryz.prog w = .ok (172, y) w := fun _ _ => by kernel_rfl
end Go.Eng
set_option maxRecDepth 100000
set_option maxHeartbeats 4000000
namespace Go.Eng
open Go.Proofs Go.RowKit
def Zwc:FuncId×Con:=(75,⟨[.int .i64],[.leaf 3],fun p=>Z6b p⟩)
theorem Z4v (n : Int) : Zl ⟨Tryz.prog, [(38, 0), (40, 2), (42, 3), (47, 1), (49, 4)], [ZCi, Z7k], [], [], [], [((42, "Of"), 222)], []⟩ [] Tryz.f75 .no [.int .i64] [.leaf 3] (n) = Z6b n := by kernel_rfl
theorem Zli : Zk Tryz.prog Zwc.1 Zwc.2 := Zm (C := ⟨Tryz.prog, [(38, 0), (40, 2), (42, 3), (47, 1), (49, 4)], [ZCi, Z7k], [], [], [], [((42, "Of"), 222)], []⟩) ⟨Zsr, qOf_k, trivial⟩ trivial trivial ⟨Zpy, trivial⟩ (inl := []) trivial (ann := .no) Tryz.func75 (fun _ _ => by kernel_rfl) rfl (fun v vals x z ha hz => (Z4v x).trans hz)
end Go.Eng
set_option maxRecDepth 100000
set_option maxHeartbeats 4000000
namespace Go.Eng
open Go.Proofs Go.RowKit
def Z1c:FuncId×Con:=(172,⟨[.leaf 3],[.bool],fun p=>Zmb p⟩)
theorem qzero_i (x:Rat):Zl ⟨Tryz.prog,[(38,0),(40,2),(42,3)],[],[],[],[],[],[]⟩ [] Tryz.f172 .no [.leaf 3] [.bool] (x)=Zto x:=by kernel_rfl
theorem Z9i:Zk Tryz.prog Z1c.1 Z1c.2:=Zm (C:=⟨Tryz.prog,[(38,0),(40,2),(42,3)],[],[],[],[],[],[]⟩) trivial trivial trivial trivial (inl:=[]) trivial (ann:=.no) Tryz.func172 (fun _ _=>by kernel_rfl) rfl fun v vals x z ha hz=>(qzero_i x).trans (ZZw hz)
end Go.Eng
set_option maxRecDepth 100000
set_option maxHeartbeats 4000000
namespace Go.Eng
open Go.Proofs Go.RowKit
def Zbg:FuncId×Con:=(191,⟨[.leaf 0],[.leaf 0],fun p=>Zhd p⟩)
theorem under_i (d:Nat):Zl ⟨Tryz.prog,[(38,0),(40,2),(42,3)],[Zdg],[],[],[],[],[]⟩ [] Tryz.f191 .no [.leaf 0] [.leaf 0] (d)=ZZn d:=by kernel_rfl
theorem Ztp:Zk Tryz.prog Zbg.1 Zbg.2:=Zm (C:=⟨Tryz.prog,[(38,0),(40,2),(42,3)],[Zdg],[],[],[],[],[]⟩) ⟨ZFn,trivial⟩ trivial trivial trivial (inl:=[]) trivial (ann:=.no) Tryz.func191 (fun _ _=>by kernel_rfl) rfl fun v vals x z ha hz=>(under_i x).trans (ZKu hz)
end Go.Eng
set_option maxRecDepth 100000
set_option maxHeartbeats 4000000
namespace Go.Eng
open Go.Proofs Go.RowKit
def Zgn:FuncId×Con:=(170,⟨[.int .u64,.int .u64],[.int .u64,.int .u64],fun p=>ZNc p.1 p.2⟩)
theorem mul64_i (x:Int) (y:Int):Zl ⟨Tryz.prog,[],[],[],[],[],[],[]⟩ [] Tryz.f170 .no [.int .u64,.int .u64] [.int .u64,.int .u64] (x,y)=Zzh x y:=by kernel_rfl
theorem mul64_k:Zk Tryz.prog Zgn.1 Zgn.2:=Zm (C:=⟨Tryz.prog,[],[],[],[],[],[],[]⟩) trivial trivial trivial trivial (inl:=[]) trivial (ann:=.no) Tryz.func170 (fun _ _=>by kernel_rfl) rfl fun v vals x z ha hz=>(mul64_i x.1 x.2).trans (ZDq hz)
end Go.Eng
set_option maxRecDepth 100000
set_option maxHeartbeats 4000000
namespace Go.Eng
open Go.Proofs Go.RowKit
def Zri:FuncId×Con:=(195,⟨[.int .u64,.int .u64,.int .u64],[.int .u64,.int .u64],fun p=>ZKb p.1 p.2.1 p.2.2⟩)
theorem Zgr:Zk Tryz.prog Zri.1 Zri.2:=fun w v vals x z _ ha hz=>by
 obtain ⟨c0,w0,e0,p0,c1,w1,e1,p1,c2,e2,p2⟩:=ha
 subst e0 e1 e2
 obtain ⟨rfl,h0⟩:=p0
 obtain ⟨rfl,h1⟩:=p1
 obtain ⟨rfl,h2⟩:=p2
 have p0:(Zd .u64).rel v [.int .u64 x.1] x.1:=⟨rfl,h0⟩
 have p1:(Zd .u64).rel v [.int .u64 x.2.1] x.2.1:=⟨rfl,h1⟩
 exact .inr ⟨.tuple #[.int .u64 z.1,.int .u64 z.2],fun w=>Zlo (show Zyf Tryz.prog 195 add64Entry from ⟨_,Tryz.func195,by kernel_rfl,by kernel_rfl,by kernel_rfl,by kernel_rfl⟩) hz w,_,rfl,_,_,rfl,⟨rfl,Zfo hz⟩,_,rfl,⟨rfl,addW_hi p0.2 p1.2 hz⟩⟩
end Go.Eng
set_option maxRecDepth 100000
set_option maxHeartbeats 4000000
namespace Go.Eng
open Go.Proofs Go.RowKit
def Zbd:FuncId×Con:=(227,⟨[.leaf 0,.leaf 0],[.leaf 0],fun p=>ZLc p.1 p.2⟩)
theorem times_i (a:Nat) (b:Nat):Zl ⟨Tryz.prog,[(38,0)],[Zjg,ZMh,Zgn,Zri],[],[],[],[],[]⟩ [] Tryz.f227 (.two .no (.two .no (.two .no (.two .no (.two (.two .no (.cut ⟨⟨[],[],[]⟩,[(.norm,⟨[],[],[.s 5 (.own 176 (.int .u64))]⟩)]⟩ (.two (.cut ⟨⟨[1,26,27],[],[.s 5 (.own 176 (.int .u64)),.s 28 (.dat (.int .i64))]⟩,[(.exit 0,⟨[],[],[.s 5 (.own 176 (.int .u64))]⟩)]⟩ (.two (.two .no (.two .no (.two (.two (.two .no (.two .no (.two (.two .no (.cut ⟨⟨[],[],[]⟩,[(.norm,⟨[1,6,26,27,28],[],[.s 5 (.own 176 (.int .u64)),.s 8 (.dat (.int .u64))]⟩)]⟩ (.two (.cut ⟨⟨[1,6,7,26,27,28,33,34],[],[.s 5 (.own 176 (.int .u64)),.s 8 (.dat (.int .u64)),.s 35 (.dat (.int .i64))]⟩,[(.exit 2,⟨[1,6,26,27,28],[],[.s 5 (.own 176 (.int .u64)),.s 8 (.dat (.int .u64))]⟩)]⟩ .no) .no))) .no))) .no) .no))) .no)) .no))) .no))))) [.leaf 0,.leaf 0] [.leaf 0] (a,b)=Zum a b:=by kernel_rfl
theorem Zik:Zk Tryz.prog Zbd.1 Zbd.2:=Zm (C:=⟨Tryz.prog,[(38,0)],[Zjg,ZMh,Zgn,Zri],[],[],[],[],[]⟩) ⟨cut_k,Zjr,mul64_k,Zgr,trivial⟩ trivial trivial trivial (inl:=[]) trivial (ann:=.two .no (.two .no (.two .no (.two .no (.two (.two .no (.cut ⟨⟨[],[],[]⟩,[(.norm,⟨[],[],[.s 5 (.own 176 (.int .u64))]⟩)]⟩ (.two (.cut ⟨⟨[1,26,27],[],[.s 5 (.own 176 (.int .u64)),.s 28 (.dat (.int .i64))]⟩,[(.exit 0,⟨[],[],[.s 5 (.own 176 (.int .u64))]⟩)]⟩ (.two (.two .no (.two .no (.two (.two (.two .no (.two .no (.two (.two .no (.cut ⟨⟨[],[],[]⟩,[(.norm,⟨[1,6,26,27,28],[],[.s 5 (.own 176 (.int .u64)),.s 8 (.dat (.int .u64))]⟩)]⟩ (.two (.cut ⟨⟨[1,6,7,26,27,28,33,34],[],[.s 5 (.own 176 (.int .u64)),.s 8 (.dat (.int .u64)),.s 35 (.dat (.int .i64))]⟩,[(.exit 2,⟨[1,6,26,27,28],[],[.s 5 (.own 176 (.int .u64)),.s 8 (.dat (.int .u64))]⟩)]⟩ .no) .no))) .no))) .no) .no))) .no)) .no))) .no))))) Tryz.func227 (fun _ _=>by kernel_rfl) rfl fun v vals x z ha hz=>(times_i x.1 x.2).trans (Ziu hz)
end Go.Eng
set_option maxRecDepth 100000
set_option maxHeartbeats 4000000
namespace Go.Eng
open Go.Proofs Go.RowKit
def Zch:FuncId×Con:=(225,⟨[.leaf 2,.leaf 0],[.leaf 2],fun p=>Zxf p.1 p.2⟩)
theorem Zku (x:Int) (n:Nat):Zl ⟨Tryz.prog,[(38,0),(40,2),(42,3)],[Zyc,Zbd],[],[],[],[],[]⟩ [] Tryz.f225 .no [.leaf 2,.leaf 0] [.leaf 2] (x,n)=ZUo x n:=by kernel_rfl
theorem ZTq:Zk Tryz.prog Zch.1 Zch.2:=Zm (C:=⟨Tryz.prog,[(38,0),(40,2),(42,3)],[Zyc,Zbd],[],[],[],[],[]⟩) ⟨ZUh,Zik,trivial⟩ trivial trivial trivial (inl:=[]) trivial (ann:=.no) Tryz.func225 (fun _ _=>by kernel_rfl) rfl fun v vals x z ha hz=>(Zku x.1 x.2).trans (Zuv hz)
end Go.Eng
set_option maxRecDepth 100000
set_option maxHeartbeats 4000000
namespace Go.Eng
open Go.Proofs Go.RowKit
def Zqi:FuncId×Con:=(218,⟨[.leaf 3,.leaf 3],[.leaf 3,.int .i64],fun p=>Zwf p.1 p.2⟩)
theorem qdiv_i (x:Rat) (y:Rat):Zl ⟨Tryz.prog,[(38,0),(40,2),(42,3)],[ZZd,Zyc,Z1c,Zbg,Zch,Zbd],[],[],[],[],[]⟩ [] Tryz.f218 (.two .no (.two .no (.two (.cut ⟨⟨[],[],[]⟩,[(.norm,⟨[2,3,4],[],[.s 6 (.box 40 (.dat (.leaf 2)))]⟩)]⟩ .no) .no))) [.leaf 3,.leaf 3] [.leaf 3,.int .i64] (x,y)=ZDn x y:=by kernel_rfl
theorem ZWq:Zk Tryz.prog Zqi.1 Zqi.2:=Zm (C:=⟨Tryz.prog,[(38,0),(40,2),(42,3)],[ZZd,Zyc,Z1c,Zbg,Zch,Zbd],[],[],[],[],[]⟩) ⟨Z7l,ZUh,Z9i,Ztp,ZTq,Zik,trivial⟩ trivial trivial trivial (inl:=[]) trivial (ann:=.two .no (.two .no (.two (.cut ⟨⟨[],[],[]⟩,[(.norm,⟨[2,3,4],[],[.s 6 (.box 40 (.dat (.leaf 2)))]⟩)]⟩ .no) .no))) Tryz.func218 (fun _ _=>by kernel_rfl) rfl fun v vals x z ha hz=>(qdiv_i x.1 x.2).trans (Ziz hz)
end Go.Eng
set_option maxRecDepth 100000
set_option maxHeartbeats 4000000
namespace Go.Eng
open Go.Proofs Go.RowKit
def Zwm:FuncId×Con:=(228,⟨[.leaf 2,.leaf 2],[.leaf 2],fun p=>Zuj p.1 p.2⟩)
theorem ZLw (x:Int) (y:Int):Zl ⟨Tryz.prog,[(38,0),(40,2),(42,3)],[Zyc,Zbd],[],[],[],[],[]⟩ [] Tryz.f228 .no [.leaf 2,.leaf 2] [.leaf 2] (x,y)=Zcq x y:=by kernel_rfl
theorem Z1w:Zk Tryz.prog Zwm.1 Zwm.2:=Zm (C:=⟨Tryz.prog,[(38,0),(40,2),(42,3)],[Zyc,Zbd],[],[],[],[],[]⟩) ⟨ZUh,Zik,trivial⟩ trivial trivial trivial (inl:=[]) trivial (ann:=.no) Tryz.func228 (fun _ _=>by kernel_rfl) rfl fun v vals x z ha hz=>(ZLw x.1 x.2).trans (ZRz hz)
end Go.Eng
set_option maxRecDepth 100000
set_option maxHeartbeats 4000000
namespace Go.Eng
open Go.Proofs Go.RowKit
def Zce:FuncId×Con:=(219,⟨[.leaf 3,.leaf 3],[.leaf 3],fun p=>ZMb p.1 p.2⟩)
theorem qmul_i (x:Rat) (y:Rat):Zl ⟨Tryz.prog,[(38,0),(40,2),(42,3)],[ZZd,Zbg,Zbd,Zwm],[],[],[],[],[]⟩ [] Tryz.f219 .no [.leaf 3,.leaf 3] [.leaf 3] (x,y)=ZUn x y:=by kernel_rfl
theorem Z1m:Zk Tryz.prog Zce.1 Zce.2:=Zm (C:=⟨Tryz.prog,[(38,0),(40,2),(42,3)],[ZZd,Zbg,Zbd,Zwm],[],[],[],[],[]⟩) ⟨Z7l,Ztp,Zik,Z1w,trivial⟩ trivial trivial trivial (inl:=[]) trivial (ann:=.no) Tryz.func219 (fun _ _=>by kernel_rfl) rfl fun v vals x z ha hz=>(qmul_i x.1 x.2).trans (Z0y hz)
end Go.Eng
set_option maxRecDepth 100000
set_option maxHeartbeats 4000000
namespace Go.Eng
open Go.Proofs Go.RowKit
def Z3k:FuncId×Con:=(229,⟨[.leaf 2],[.leaf 2],fun p=>ZUj p⟩)
theorem Ziw (x:Int):Zl ⟨Tryz.prog,[(38,0),(40,2),(42,3)],[Zyc],[],[],[],[],[]⟩ [] Tryz.f229 .no [.leaf 2] [.leaf 2] (x)=ZLo x:=by kernel_rfl
theorem Zhz:Zk Tryz.prog Z3k.1 Z3k.2:=Zm (C:=⟨Tryz.prog,[(38,0),(40,2),(42,3)],[Zyc],[],[],[],[],[]⟩) ⟨ZUh,trivial⟩ trivial trivial trivial (inl:=[]) trivial (ann:=.no) Tryz.func229 (fun _ _=>by kernel_rfl) rfl fun v vals x z ha hz=>(Ziw x).trans (ZKz hz)
end Go.Eng
set_option maxRecDepth 100000
set_option maxHeartbeats 4000000
namespace Go.Eng
open Go.Proofs Go.RowKit
def ZWc:FuncId×Con:=(221,⟨[.leaf 3],[.leaf 3],fun p=>Zjd p⟩)
theorem qneg_i (x:Rat):Zl ⟨Tryz.prog,[(38,0),(40,2),(42,3)],[Z3k],[],[],[],[],[]⟩ [] Tryz.f221 .no [.leaf 3] [.leaf 3] (x)=ZRn x:=by kernel_rfl
theorem ZXi:Zk Tryz.prog ZWc.1 ZWc.2:=Zm (C:=⟨Tryz.prog,[(38,0),(40,2),(42,3)],[Z3k],[],[],[],[],[]⟩) ⟨Zhz,trivial⟩ trivial trivial trivial (inl:=[]) trivial (ann:=.no) Tryz.func221 (fun _ _=>by kernel_rfl) rfl fun v vals x z ha hz=>(qneg_i x).trans (ZAy hz)
end Go.Eng
set_option maxRecDepth 100000
set_option maxHeartbeats 4000000
namespace Go.Eng
open Go.Proofs Go.RowKit
def ZJh:FuncId×Con:=(182,⟨[.leaf 0,.leaf 0],[.int .i64],fun p=>ZFd p.1 p.2⟩)
theorem cmp_i (a:(List Int)) (b:(List Int)):Zl ⟨Tryz.prog,[],[],[],[],[],[],[]⟩ [] Tryz.f182 (.two .no (.two .no (.two (.two .no (.cut ⟨⟨[],[],[]⟩,[(.norm,⟨[],[],[]⟩),(.ret,⟨[],[],[.s 1000 (.dat (.int .i64))]⟩)]⟩ (.two (.cut ⟨⟨[0,1],[],[.s 5 (.dat (.int .i64))]⟩,[(.ret,⟨[],[],[.s 1000 (.dat (.int .i64))]⟩),(.exit 0,⟨[],[],[]⟩)]⟩ .no) .no))) .no))) [.slice (.int .u64),.slice (.int .u64)] [.int .i64] (a,b)=Zij a b:=by kernel_rfl
theorem cmp_k:Zk Tryz.prog ZJh.1 ZJh.2:=Zjn (C:=⟨Tryz.prog,[],[],[],[],[],[],[]⟩) trivial trivial trivial trivial (inl:=[]) trivial (ann:=.two .no (.two .no (.two (.two .no (.cut ⟨⟨[],[],[]⟩,[(.norm,⟨[],[],[]⟩),(.ret,⟨[],[],[.s 1000 (.dat (.int .i64))]⟩)]⟩ (.two (.cut ⟨⟨[0,1],[],[.s 5 (.dat (.int .i64))]⟩,[(.ret,⟨[],[],[.s 1000 (.dat (.int .i64))]⟩),(.exit 0,⟨[],[],[]⟩)]⟩ .no) .no))) .no))) (ats:=[.slice (.int .u64),.slice (.int .u64)]) (rts:=[.int .i64]) (fun x=>((Zc 18446744073709551616 x.1),(Zc 18446744073709551616 x.2))) (fun z=>z) (fun _ _ _ h=>h) (fun _ _ _ h=>h) Tryz.func182 (fun _ _=>by kernel_rfl) rfl fun v vals x z ha hz=>by obtain ⟨c0,w0,e0,p0,c1,e1,p1⟩:=ha;exact (cmp_i (Zc 18446744073709551616 x.1) (Zc 18446744073709551616 x.2)).trans ((ZXr (Z1l p0) (Z1l p1)).trans hz)
end Go.Eng
set_option maxRecDepth 100000
set_option maxHeartbeats 4000000
namespace Go.Eng
open Go.Proofs Go.RowKit
def Zrm:FuncId×Con:=(230,⟨[.leaf 0,.leaf 0],[.leaf 0],fun p=>ZTj p.1 p.2⟩)
theorem plus_i (a:Nat) (b:Nat):Zl ⟨Tryz.prog,[(38,0)],[Zri],[],[],[],[],[]⟩ [] Tryz.f230 (.two .no (.two (.two .no (.cut ⟨⟨[],[],[]⟩,[(.norm,⟨[],[],[.s 0 (.dat (.leaf 0)),.s 1 (.dat (.leaf 0))]⟩)]⟩ .no)) (.two .no (.two .no (.two (.two .no (.cut ⟨⟨[],[],[]⟩,[(.norm,⟨[],[],[.s 5 (.own 176 (.int .u64)),.s 6 (.dat (.int .u64))]⟩)]⟩ (.two (.cut ⟨⟨[1,23,24],[],[.s 5 (.own 176 (.int .u64)),.s 6 (.dat (.int .u64)),.s 25 (.dat (.int .i64))]⟩,[(.exit 0,⟨[],[],[.s 5 (.own 176 (.int .u64)),.s 6 (.dat (.int .u64))]⟩)]⟩ (.two (.two .no (.two .no (.two (.two (.two .no (.two .no (.two (.two .no (.cut ⟨⟨[],[],[]⟩,[(.norm,⟨[1,5,6,7,8,23,24,25],[],[.s 9 (.dat (.int .u64))]⟩)]⟩ .no)) .no))) .no) .no))) .no)) .no))) (.two (.two .no (.cut ⟨⟨[],[],[]⟩,[(.norm,⟨[],[],[.s 5 (.own 176 (.int .u64))]⟩)]⟩ .no)) .no)))))) [.leaf 0,.leaf 0] [.leaf 0] (a,b)=ZFl a b:=by kernel_rfl
theorem plus_k:Zk Tryz.prog Zrm.1 Zrm.2:=Zm (C:=⟨Tryz.prog,[(38,0)],[Zri],[],[],[],[],[]⟩) ⟨Zgr,trivial⟩ trivial trivial trivial (inl:=[]) trivial (ann:=.two .no (.two (.two .no (.cut ⟨⟨[],[],[]⟩,[(.norm,⟨[],[],[.s 0 (.dat (.leaf 0)),.s 1 (.dat (.leaf 0))]⟩)]⟩ .no)) (.two .no (.two .no (.two (.two .no (.cut ⟨⟨[],[],[]⟩,[(.norm,⟨[],[],[.s 5 (.own 176 (.int .u64)),.s 6 (.dat (.int .u64))]⟩)]⟩ (.two (.cut ⟨⟨[1,23,24],[],[.s 5 (.own 176 (.int .u64)),.s 6 (.dat (.int .u64)),.s 25 (.dat (.int .i64))]⟩,[(.exit 0,⟨[],[],[.s 5 (.own 176 (.int .u64)),.s 6 (.dat (.int .u64))]⟩)]⟩ (.two (.two .no (.two .no (.two (.two (.two .no (.two .no (.two (.two .no (.cut ⟨⟨[],[],[]⟩,[(.norm,⟨[1,5,6,7,8,23,24,25],[],[.s 9 (.dat (.int .u64))]⟩)]⟩ .no)) .no))) .no) .no))) .no)) .no))) (.two (.two .no (.cut ⟨⟨[],[],[]⟩,[(.norm,⟨[],[],[.s 5 (.own 176 (.int .u64))]⟩)]⟩ .no)) .no)))))) Tryz.func230 (fun _ _=>by kernel_rfl) rfl fun v vals x z ha hz=>(plus_i x.1 x.2).trans (Zxx hz)
end Go.Eng
set_option maxRecDepth 100000
set_option maxHeartbeats 4000000
namespace Go.Eng
open Go.Proofs Go.RowKit
def Z0m:FuncId×Con:=(198,⟨[.int .u64,.int .u64,.int .u64],[.int .u64,.int .u64],fun p=>Zrd p.1 p.2.1 p.2.2⟩)
theorem sub64_k:Zk Tryz.prog Z0m.1 Z0m.2:=fun w v vals x z _ ha hz=>by
 obtain ⟨c0,w0,e0,p0,c1,w1,e1,p1,c2,e2,p2⟩:=ha
 subst e0 e1 e2
 obtain ⟨rfl,h0⟩:=p0
 obtain ⟨rfl,h1⟩:=p1
 obtain ⟨rfl,h2⟩:=p2
 have p0:(Zd .u64).rel v [.int .u64 x.1] x.1:=⟨rfl,h0⟩
 have p1:(Zd .u64).rel v [.int .u64 x.2.1] x.2.1:=⟨rfl,h1⟩
 exact .inr ⟨.tuple #[.int .u64 z.1,.int .u64 z.2],fun w=>Z0s (show Zyf Tryz.prog 198 ZPm from ⟨_,Tryz.func198,by kernel_rfl,by kernel_rfl,by kernel_rfl,by kernel_rfl⟩) p0.2 p1.2 hz w,_,rfl,_,_,rfl,⟨rfl,Z8q hz⟩,_,rfl,⟨rfl,ZGt hz⟩⟩
end Go.Eng
set_option maxRecDepth 100000
set_option maxHeartbeats 4000000
namespace Go.Eng
open Go.Proofs Go.RowKit
def ZKl:FuncId×Con:=(231,⟨[.leaf 0,.leaf 0],[.leaf 0],fun p=>ZPh p.1 p.2⟩)
theorem minus_i (a:Nat) (b:Nat):Zl ⟨Tryz.prog,[(38,0)],[Zjg,Z0m],[],[],[],[],[]⟩ [] Tryz.f231 (.two .no (.two .no (.two .no (.two (.two .no (.cut ⟨⟨[],[],[]⟩,[(.norm,⟨[],[],[.s 5 (.own 176 (.int .u64))]⟩)]⟩ (.two (.cut ⟨⟨[1,13,14],[],[.s 5 (.own 176 (.int .u64)),.s 6 (.dat (.int .u64)),.s 15 (.dat (.int .i64))]⟩,[(.exit 0,⟨[],[],[.s 5 (.own 176 (.int .u64))]⟩)]⟩ (.two (.two .no (.two .no (.two (.two (.two .no (.two .no (.two (.two .no (.cut ⟨⟨[],[],[]⟩,[(.norm,⟨[1,5,6,7,8,13,14,15],[],[.s 9 (.dat (.int .u64))]⟩)]⟩ .no)) .no))) .no) .no))) .no)) .no))) .no)))) [.leaf 0,.leaf 0] [.leaf 0] (a,b)=Zen a b:=by kernel_rfl
theorem minus_k:Zk Tryz.prog ZKl.1 ZKl.2:=Zm (C:=⟨Tryz.prog,[(38,0)],[Zjg,Z0m],[],[],[],[],[]⟩) ⟨cut_k,sub64_k,trivial⟩ trivial trivial trivial (inl:=[]) trivial (ann:=.two .no (.two .no (.two .no (.two (.two .no (.cut ⟨⟨[],[],[]⟩,[(.norm,⟨[],[],[.s 5 (.own 176 (.int .u64))]⟩)]⟩ (.two (.cut ⟨⟨[1,13,14],[],[.s 5 (.own 176 (.int .u64)),.s 6 (.dat (.int .u64)),.s 15 (.dat (.int .i64))]⟩,[(.exit 0,⟨[],[],[.s 5 (.own 176 (.int .u64))]⟩)]⟩ (.two (.two .no (.two .no (.two (.two (.two .no (.two .no (.two (.two .no (.cut ⟨⟨[],[],[]⟩,[(.norm,⟨[1,5,6,7,8,13,14,15],[],[.s 9 (.dat (.int .u64))]⟩)]⟩ .no)) .no))) .no) .no))) .no)) .no))) .no)))) Tryz.func231 (fun _ _=>by kernel_rfl) rfl fun v vals x z ha hz=>(minus_i x.1 x.2).trans (Zrz hz)
end Go.Eng
set_option maxRecDepth 100000
set_option maxHeartbeats 4000000
namespace Go.Eng
open Go.Proofs Go.RowKit
def ZAl:FuncId×Con:=(226,⟨[.leaf 2,.leaf 2],[.leaf 2],fun p=>Zjj p.1 p.2⟩)
theorem iplus_i (x:Int) (y:Int):Zl ⟨Tryz.prog,[(38,0),(40,2),(42,3)],[Zyc,ZJh,Zrm,ZKl],[],[],[],[],[]⟩ [] Tryz.f226 .no [.leaf 2,.leaf 2] [.leaf 2] (x,y)=Z9p x y:=by kernel_rfl
theorem iplus_k:Zk Tryz.prog ZAl.1 ZAl.2:=Zm (C:=⟨Tryz.prog,[(38,0),(40,2),(42,3)],[Zyc,ZJh,Zrm,ZKl],[],[],[],[],[]⟩) ⟨ZUh,cmp_k,plus_k,minus_k,trivial⟩ trivial trivial trivial (inl:=[]) trivial (ann:=.no) Tryz.func226 (fun _ _=>by kernel_rfl) rfl fun v vals x z ha hz=>(iplus_i x.1 x.2).trans (ZIz hz)
end Go.Eng
set_option maxRecDepth 100000
set_option maxHeartbeats 4000000
namespace Go.Eng
open Go.Proofs Go.RowKit
def Z1d:FuncId×Con:=(215,⟨[.leaf 3,.leaf 3],[.leaf 3],fun p=>Z0d p.1 p.2⟩)
theorem qadd_i (x:Rat) (y:Rat):Zl ⟨Tryz.prog,[(38,0),(40,2),(42,3)],[ZZd,Zbg,Zch,ZAl,Zbd],[],[],[],[],[]⟩ [] Tryz.f215 .no [.leaf 3,.leaf 3] [.leaf 3] (x,y)=ZEn x y:=by kernel_rfl
theorem ZCk:Zk Tryz.prog Z1d.1 Z1d.2:=Zm (C:=⟨Tryz.prog,[(38,0),(40,2),(42,3)],[ZZd,Zbg,Zch,ZAl,Zbd],[],[],[],[],[]⟩) ⟨Z7l,Ztp,ZTq,iplus_k,Zik,trivial⟩ trivial trivial trivial (inl:=[]) trivial (ann:=.no) Tryz.func215 (fun _ _=>by kernel_rfl) rfl fun v vals x z ha hz=>(qadd_i x.1 x.2).trans (ZYw hz)
end Go.Eng
set_option maxRecDepth 100000
set_option maxHeartbeats 4000000
namespace Go.Eng
open Go.Proofs Go.RowKit
def Zuf:FuncId×Con:=(224,⟨[.leaf 3,.leaf 3],[.leaf 3],fun p=>Zmd p.1 p.2⟩)
theorem qsub_i (x:Rat) (y:Rat):Zl ⟨Tryz.prog,[(38,0),(40,2),(42,3)],[Z1d,ZWc],[],[],[],[],[]⟩ [] Tryz.f224 .no [.leaf 3,.leaf 3] [.leaf 3] (x,y)=Zho x y:=by kernel_rfl
theorem ZHo:Zk Tryz.prog Zuf.1 Zuf.2:=Zm (C:=⟨Tryz.prog,[(38,0),(40,2),(42,3)],[Z1d,ZWc],[],[],[],[],[]⟩) ⟨ZCk,ZXi,trivial⟩ trivial trivial trivial (inl:=[]) trivial (ann:=.no) Tryz.func224 (fun _ _=>by kernel_rfl) rfl fun v vals x z ha hz=>(qsub_i x.1 x.2).trans (ZYx hz)
end Go.Eng
set_option maxRecDepth 100000
set_option maxHeartbeats 4000000
namespace Go.Eng
open Go.Proofs Go.RowKit
def Zvf:FuncId×Con:=(58,⟨[.slice (.slice (.leaf 3))],[.slice (.slice (.leaf 3)),.slice (.int .i64),.leaf 3],fun p=>ZEe p⟩)
theorem ZZy (m : List (List Rat)) : Zl ⟨Tryz.prog, [(38, 0), (40, 2), (42, 3), (47, 1), (49, 4)], [Zwc, Z1c, Zqi, Zce, ZWc, Zuf], [8], [Z3d], [], [((42, "Div"), 218), ((42, "Mul"), 219), ((42, "Neg"), 221), ((42, "Sub"), 224), ((42, "Zero"), 172)], []⟩ [(44, Tryz.f44, .cut ⟨⟨[], [], []⟩, [(.ret, ⟨[], [], [.s 1000 (.dat (.int .i64))]⟩)]⟩ .no), (101, Tryz.f101, .two .no (.two .no (.two (.two .no (.two (.cut ⟨⟨[3, 9, 10], [], [.s 11 (.dat (.int .i64)), .l (.sl 3) (.mat 30 42 (.leaf 3))]⟩, [(.exit 0, ⟨[3], [], [.l (.sl 3) (.mat 30 42 (.leaf 3))]⟩)]⟩ .no) .no)) .no)))] Tryz.f58 (.two .no (.two .no (.two .no (.two .no (.two (.two .no (.two (.cut ⟨⟨[0, 4, 6, 19], [], [.s 5 (.own 3 (.int .i64)), .s 20 (.dat (.int .i64)), .l (.sl 0) (.mat 30 42 (.leaf 3)), .l (.sl 6) (.box 42 (.dat (.leaf 3)))]⟩, [(.exit 0, ⟨[0, 4, 6], [], [.s 5 (.own 3 (.int .i64)), .l (.sl 0) (.mat 30 42 (.leaf 3)), .l (.sl 6) (.box 42 (.dat (.leaf 3)))]⟩)]⟩ (.two (.two .no (.two .no (.two (.cut ⟨⟨[], [], []⟩, [(.norm, ⟨[0, 4, 6, 19, 20], [], [.s 5 (.own 3 (.int .i64)), .l (.sl 0) (.mat 30 42 (.leaf 3)), .l (.sl 6) (.box 42 (.dat (.leaf 3)))]⟩)]⟩ (.two (.two .no (.two .no (.two .no (.two (.two (.cut ⟨⟨[0, 4, 5, 6, 7, 8, 19, 20], [], [.s 9 (.dat (.int .i64))]⟩, [(.exit 2, ⟨[0, 4, 5, 6, 7, 8, 19, 20], [], [.s 9 (.dat (.int .i64))]⟩)]⟩ (.two (.two (.two (.cut ⟨⟨[], [], []⟩, [(.norm, ⟨[0, 4, 5, 6, 7, 8, 9, 19, 20], [], [.s 40 (.dat .bool)]⟩)]⟩ .no) .no) .no) .no)) .no) (.two .no (.two (.two .no (.cut ⟨⟨[], [], []⟩, [(.norm, ⟨[0, 4, 5, 6, 7, 8, 19, 20], [], [.l (.sl 0) (.mat 30 42 (.leaf 3)), .l (.sl 6) (.box 42 (.dat (.leaf 3)))]⟩)]⟩ .no)) (.two .no (.two .no (.two (.two .no (.two (.cut ⟨⟨[0, 4, 5, 6, 7, 8, 10, 19, 20, 83], [], [.s 84 (.dat (.int .i64)), .l (.sl 0) (.mat 30 42 (.leaf 3))]⟩, [(.exit 4, ⟨[0, 4, 5, 6, 7, 8, 19, 20], [], [.l (.sl 0) (.mat 30 42 (.leaf 3))]⟩)]⟩ .no) .no)) (.two (.two .no (.two (.cut ⟨⟨[0, 4, 5, 6, 7, 8, 19, 20, 108], [], [.s 109 (.dat (.int .i64)), .l (.sl 0) (.mat 30 42 (.leaf 3))]⟩, [(.exit 6, ⟨[0, 4, 5, 6, 7, 19, 20], [], [.l (.sl 0) (.mat 30 42 (.leaf 3))]⟩)]⟩ (.two (.two .no (.two .no (.two (.cut ⟨⟨[], [], []⟩, [(.norm, ⟨[0, 4, 5, 6, 7, 8, 19, 20, 108, 109], [], [.l (.sl 0) (.mat 30 42 (.leaf 3))]⟩)]⟩ (.two (.two .no (.two .no (.two (.two (.cut ⟨⟨[], [], []⟩, [(.norm, ⟨[0, 4, 5, 6, 7, 8, 12, 13, 19, 20, 108, 109], [], [.s 126 (.dat .bool)]⟩)]⟩ .no) .no) (.two .no (.two (.cut ⟨⟨[0, 4, 5, 6, 7, 8, 12, 13, 19, 20, 108, 109, 131], [], [.s 132 (.dat (.int .i64)), .l (.sl 0) (.mat 30 42 (.leaf 3))]⟩, [(.exit 8, ⟨[0, 4, 5, 6, 7, 8, 19, 20, 108, 109], [], [.l (.sl 0) (.mat 30 42 (.leaf 3))]⟩)]⟩ .no) .no))))) .no)) .no))) .no)) .no)) .no)))))))))) .no)) .no))) .no)) .no)) .no))))) [.slice (.slice (.leaf 3))] [.slice (.slice (.leaf 3)), .slice (.int .i64), .leaf 3] (m) = ZEe m := by kernel_rfl
theorem Z1n : Zk Tryz.prog Zvf.1 Zvf.2 := Zm (C := ⟨Tryz.prog, [(38, 0), (40, 2), (42, 3), (47, 1), (49, 4)], [Zwc, Z1c, Zqi, Zce, ZWc, Zuf], [8], [Z3d], [], [((42, "Div"), 218), ((42, "Mul"), 219), ((42, "Neg"), 221), ((42, "Sub"), 224), ((42, "Zero"), 172)], []⟩) ⟨Zli, Z9i, ZWq, Z1m, ZXi, ZHo, trivial⟩ ⟨Zxk, trivial⟩ trivial ⟨ZRr, Zwk, ZZk, Zks, Zwn, trivial⟩ (inl := [(44, Tryz.f44, .cut ⟨⟨[], [], []⟩, [(.ret, ⟨[], [], [.s 1000 (.dat (.int .i64))]⟩)]⟩ .no), (101, Tryz.f101, .two .no (.two .no (.two (.two .no (.two (.cut ⟨⟨[3, 9, 10], [], [.s 11 (.dat (.int .i64)), .l (.sl 3) (.mat 30 42 (.leaf 3))]⟩, [(.exit 0, ⟨[3], [], [.l (.sl 3) (.mat 30 42 (.leaf 3))]⟩)]⟩ .no) .no)) .no)))]) ⟨⟨Tryz.func44, fun _ _ => by kernel_rfl⟩, ⟨Tryz.func101, fun _ _ => by kernel_rfl⟩, trivial⟩ (ann := (.two .no (.two .no (.two .no (.two .no (.two (.two .no (.two (.cut ⟨⟨[0, 4, 6, 19], [], [.s 5 (.own 3 (.int .i64)), .s 20 (.dat (.int .i64)), .l (.sl 0) (.mat 30 42 (.leaf 3)), .l (.sl 6) (.box 42 (.dat (.leaf 3)))]⟩, [(.exit 0, ⟨[0, 4, 6], [], [.s 5 (.own 3 (.int .i64)), .l (.sl 0) (.mat 30 42 (.leaf 3)), .l (.sl 6) (.box 42 (.dat (.leaf 3)))]⟩)]⟩ (.two (.two .no (.two .no (.two (.cut ⟨⟨[], [], []⟩, [(.norm, ⟨[0, 4, 6, 19, 20], [], [.s 5 (.own 3 (.int .i64)), .l (.sl 0) (.mat 30 42 (.leaf 3)), .l (.sl 6) (.box 42 (.dat (.leaf 3)))]⟩)]⟩ (.two (.two .no (.two .no (.two .no (.two (.two (.cut ⟨⟨[0, 4, 5, 6, 7, 8, 19, 20], [], [.s 9 (.dat (.int .i64))]⟩, [(.exit 2, ⟨[0, 4, 5, 6, 7, 8, 19, 20], [], [.s 9 (.dat (.int .i64))]⟩)]⟩ (.two (.two (.two (.cut ⟨⟨[], [], []⟩, [(.norm, ⟨[0, 4, 5, 6, 7, 8, 9, 19, 20], [], [.s 40 (.dat .bool)]⟩)]⟩ .no) .no) .no) .no)) .no) (.two .no (.two (.two .no (.cut ⟨⟨[], [], []⟩, [(.norm, ⟨[0, 4, 5, 6, 7, 8, 19, 20], [], [.l (.sl 0) (.mat 30 42 (.leaf 3)), .l (.sl 6) (.box 42 (.dat (.leaf 3)))]⟩)]⟩ .no)) (.two .no (.two .no (.two (.two .no (.two (.cut ⟨⟨[0, 4, 5, 6, 7, 8, 10, 19, 20, 83], [], [.s 84 (.dat (.int .i64)), .l (.sl 0) (.mat 30 42 (.leaf 3))]⟩, [(.exit 4, ⟨[0, 4, 5, 6, 7, 8, 19, 20], [], [.l (.sl 0) (.mat 30 42 (.leaf 3))]⟩)]⟩ .no) .no)) (.two (.two .no (.two (.cut ⟨⟨[0, 4, 5, 6, 7, 8, 19, 20, 108], [], [.s 109 (.dat (.int .i64)), .l (.sl 0) (.mat 30 42 (.leaf 3))]⟩, [(.exit 6, ⟨[0, 4, 5, 6, 7, 19, 20], [], [.l (.sl 0) (.mat 30 42 (.leaf 3))]⟩)]⟩ (.two (.two .no (.two .no (.two (.cut ⟨⟨[], [], []⟩, [(.norm, ⟨[0, 4, 5, 6, 7, 8, 19, 20, 108, 109], [], [.l (.sl 0) (.mat 30 42 (.leaf 3))]⟩)]⟩ (.two (.two .no (.two .no (.two (.two (.cut ⟨⟨[], [], []⟩, [(.norm, ⟨[0, 4, 5, 6, 7, 8, 12, 13, 19, 20, 108, 109], [], [.s 126 (.dat .bool)]⟩)]⟩ .no) .no) (.two .no (.two (.cut ⟨⟨[0, 4, 5, 6, 7, 8, 12, 13, 19, 20, 108, 109, 131], [], [.s 132 (.dat (.int .i64)), .l (.sl 0) (.mat 30 42 (.leaf 3))]⟩, [(.exit 8, ⟨[0, 4, 5, 6, 7, 8, 19, 20, 108, 109], [], [.l (.sl 0) (.mat 30 42 (.leaf 3))]⟩)]⟩ .no) .no))))) .no)) .no))) .no)) .no)) .no)))))))))) .no)) .no))) .no)) .no)) .no)))))) Tryz.func58 (fun _ _ => by kernel_rfl) rfl (fun v vals x z ha hz => (ZZy x).trans hz)
end Go.Eng
set_option maxRecDepth 100000
set_option maxHeartbeats 4000000
namespace Go.Eng
open Go.Proofs Go.RowKit
def Z2m:FuncId×Con:=(34,⟨[.slice (.slice (.leaf 3))],[.slice (.slice (.leaf 3)),.slice (.int .i64),.int .i64],fun p=>Z7o p⟩)
theorem ZVx (m:List (List Rat)):Zl ⟨Tryz.prog,[(38,0),(40,2),(42,3),(47,1),(49,4)],[ZRc,Zvf],[],[],[],[],[]⟩ [] Tryz.f34 .no [.slice (.slice (.leaf 3))] [.slice (.slice (.leaf 3)),.slice (.int .i64),.int .i64] (m)=Z7o m:=by kernel_rfl
theorem Zmx:Zk Tryz.prog Z2m.1 Z2m.2:=Zm (C:=⟨Tryz.prog,[(38,0),(40,2),(42,3),(47,1),(49,4)],[ZRc,Zvf],[],[],[],[],[]⟩) ⟨Z6i,Z1n,trivial⟩ trivial trivial trivial (inl:=[]) trivial (ann:=.no) Tryz.func34 (fun _ _=>by kernel_rfl) rfl (fun v vals x z ha hz=>(ZVx x).trans hz)
end Go.Eng
set_option maxRecDepth 100000
set_option maxHeartbeats 4000000
namespace Go.Eng
open Go.Proofs Go.RowKit
def Z3m:FuncId×Con:=(112,⟨[.slice (.int .i64),.int .i64],[.int .i64],fun p=>Zgk p.1 p.2⟩)
theorem ZEw (l:(List Int)) (v:Int):Zl ⟨Tryz.prog,[(38,0),(40,2),(42,3),(47,1),(49,4)],[],[],[],[],[],[]⟩ [] Tryz.f112 (.two .no (.two (.two .no (.cut ⟨⟨[],[],[]⟩,[(.norm,⟨[],[],[]⟩),(.ret,⟨[],[],[.s 1000 (.dat (.int .i64))]⟩)]⟩ (.two (.cut ⟨⟨[0,1,7],[],[.s 8 (.dat (.int .i64))]⟩,[(.ret,⟨[],[],[.s 1000 (.dat (.int .i64))]⟩),(.exit 0,⟨[],[],[]⟩)]⟩ .no) .no))) .no)) [.slice (.int .i64),.int .i64] [.int .i64] (l,v)=Zgk l v:=by kernel_rfl
theorem Zdv:Zk Tryz.prog Z3m.1 Z3m.2:=Zm (C:=⟨Tryz.prog,[(38,0),(40,2),(42,3),(47,1),(49,4)],[],[],[],[],[],[]⟩) trivial trivial trivial trivial (inl:=[]) trivial (ann:=.two .no (.two (.two .no (.cut ⟨⟨[],[],[]⟩,[(.norm,⟨[],[],[]⟩),(.ret,⟨[],[],[.s 1000 (.dat (.int .i64))]⟩)]⟩ (.two (.cut ⟨⟨[0,1,7],[],[.s 8 (.dat (.int .i64))]⟩,[(.ret,⟨[],[],[.s 1000 (.dat (.int .i64))]⟩),(.exit 0,⟨[],[],[]⟩)]⟩ .no) .no))) .no)) Tryz.func112 (fun _ _=>by kernel_rfl) rfl fun v vals x z ha hz=>(ZEw x.1 x.2).trans (hz)
end Go.Eng
set_option maxRecDepth 100000
set_option maxHeartbeats 4000000
namespace Go.Eng
open Go.Proofs Go.RowKit
def ZOk:FuncId×Con:=(80,⟨[.slice (.int .i64),.int .i64],[.bool],fun p=>ZRi p.1 p.2⟩)
theorem ZHy (l:(List Int)) (v:Int):Zl ⟨Tryz.prog,[(38,0),(40,2),(42,3),(47,1),(49,4)],[Z3m],[],[],[],[],[]⟩ [] Tryz.f80 .no [.slice (.int .i64),.int .i64] [.bool] (l,v)=ZRi l v:=by kernel_rfl
theorem Zbz:Zk Tryz.prog ZOk.1 ZOk.2:=Zm (C:=⟨Tryz.prog,[(38,0),(40,2),(42,3),(47,1),(49,4)],[Z3m],[],[],[],[],[]⟩) ⟨Zdv,trivial⟩ trivial trivial trivial (inl:=[]) trivial (ann:=.no) Tryz.func80 (fun _ _=>by kernel_rfl) rfl fun v vals x z ha hz=>(ZHy x.1 x.2).trans (hz)
def Z5k (x:Int) (y:Int):Option (Int×Int) :=
 bnd (ZNc x y) fun a =>
 some ((a.1,a.2))
end Go.Eng
namespace Go.Eng
open Go.Proofs Go.RowKit
theorem bmul_w {c:World} {a:Zb} (hv:VIn a c) {d:List Value} {x:Int} (i:Rep.rel (Zd .u64) a d x) {e:List Value} {y:Int} (j:Rep.rel (Zd .u64) a e y) {z:Int×Int} (H:Z5k x y=some z):Ret Tryz.prog 140 #[(Zd .u64).val d,(Zd .u64).val e] c a (fun y v'=>∃ g b,y = .tuple #[(Zd .u64).val g,(Zd .u64).val b]∧(Zd .u64).rel v' g z.1∧(Zd .u64).rel v' b z.2):=by
 obtain ⟨rfl,b⟩:=i;obtain ⟨rfl,k⟩:=j;refine Z7b (K:=30) (args:=[.int .u64 x,.int .u64 y]) hv Tryz.func140 rfl rfl zl fun f S=>?_;unfold Z5k at H;refine sr (mw S rfl fun f S=>mw S rfl fun f S=>oe (Zo fun _ l=>ZU S rfl rfl (wp_skip (Zh (l _ _ (Zo fun _ m=>bO H fun h n H=>Zw (mv S rfl fun f S=>mv S rfl fun f S=>opc S rfl (Zfa S [.int .u64 x,.int .u64 y] ZMo rfl rfl) (ZMn S.vin (show Rep.rel (Zd .u64) _ [.int .u64 x] x from (ZE b)) (show Rep.rel (Zd .u64) _ [.int .u64 y] y from (ZE k)) n) ?_)))))));rintro _ s f w t ⟨u,v,rfl,o,p⟩ S;obtain ⟨rfl,q⟩:=o;obtain ⟨rfl,r⟩:=p;refine mv S rfl fun f S=>ov S rfl (ZKa S rfl rfl) fun f S=>ov S rfl (ZKa S rfl rfl) fun f S=>mw S rfl fun f S=>mw S rfl fun f S=>Zt (Zh (m _ _ (sr (mv S rfl fun f S=>mv S rfl fun f S=>mw S rfl fun f S=>mw S rfl fun f S=>oe (wp_ret ?_)))));obtain rfl:=Zp H;refine ZRa S (ZTf rfl (Z0 S rfl) (Z0 S rfl)) ⟨[.int .u64 (h.1)],[.int .u64 (h.2)],rfl,(ZE q),(ZE r)⟩
set_option maxRecDepth 100000
theorem ZOo:Elem Tryz.prog 30 42 (ZAb).n 56 (Value.agg #[Value.bool false,Value.slice none 0 0,Value.slice none 0 0]):=⟨Tryz.underlying30,by kernel_rfl,rfl,by decide⟩
theorem Znl:ZHd Tryz.prog 30 42 (ZAb).n:=⟨fun _=>by kernel_rfl,fun _=>by kernel_rfl⟩
theorem Zcv:Tryz.prog.follows .mixedOrders=true:=by kernel_rfl
theorem ZVu:Z9 Tryz.prog 140:=fun _ _=>by kernel_rfl
theorem Zxq:ZXj Tryz.prog 3 205 .i64 .u64:=fun _ _=>by kernel_rfl
theorem Zju:ZXj Tryz.prog 205 3 .u64 .i64:=fun _ _=>by kernel_rfl
def Z9f:FuncId×ConO:=(108,⟨[.slice (.leaf 3),.int .i64],42,.leaf 3,fun p=>Zcf 56 p.1 p.2⟩)
theorem Z6o:ZNg Tryz.prog Z9f.1 Z9f.2:=fun w v vals x z hv ha hz=>by
 obtain ⟨cs,vs,rfl,p0,c1,rfl,rfl,hin⟩:=ha
 obtain ⟨x1,k0⟩:=x
 have hz:Zcf 56 (show List Rat from x1) k0=some z:=hz
 obtain ⟨y,hx1,hzr,hmk⟩:=Zgu hz
 have hx1:x1=[y]:=hx1
 subst hx1 hzr
 obtain ⟨h0,_,hb1,hb2⟩:=Z7a hmk
 obtain ⟨k,rfl⟩:=Int.eq_ofNat_of_zero_le h0
 obtain ⟨q,c,e,hc1,hc2,hne⟩:=(show (Zu ZAb).rel v cs [y] from p0)
 subst e
 rcases hne with hne | ⟨b,off,cc,TT,fr,rfl,hvb,hrel⟩
 ·cases hne
 have hlen1:([y]:List Rat).length=1:=rfl
 rw [hlen1] at hrel
 obtain ⟨c1,c2,e12,hrc,e2⟩:=hrel
 have e2:c2=[]:=e2
 subst e2
 rw [List.append_nil,Nat.one_mul] at e12
 have hl1:=Rep.len _ hrc
 have hAt:At v b off c1:=⟨cc,TT,fr,hvb,by rw [hl1];exact e12⟩
 refine ⟨fun _ _=>by kernel_rfl,?_⟩
 have hk:((k:Int).toNat)=k:=Int.toNat_natCast k
 rw [hk]
 refine Zil (K:=48) (args:=[.slice (some ⟨b,off,none⟩) 1 c,.int .i64 (k:Int)]) hv Tryz.func108 rfl rfl zl fun fa hS=>?_
 refine sr ?_
 refine mw hS rfl fun fa hS=>?_
 refine oe ?_
 refine wp_seq_k fun N1 hN1=>?_
 refine sr ?_
 refine mv hS rfl fun fa hS=>?_
 refine ov hS rfl (Zg hS rfl rfl Zpc) fun fa hS=>?_
 refine oe ?_
 refine ZU hS rfl (decide_eq_false (by omega)) ?_
 refine wp_skip ?_
 refine Zh (hN1 _ _ ?_)
 refine sr ?_
 refine mv hS rfl fun fa hS=>?_
 refine ov hS rfl (Z5e hS rfl rfl Znl) fun fa hS=>?_
 refine ov hS rfl (ZWd hS rfl (Zxq _)) fun fa hS=>?_
 refine mv hS rfl fun fa hS=>?_
 refine ov hS rfl (ZWd hS rfl (Zxq _)) fun fa hS=>?_
 have w1:IntKind.u64.wrap ((1:Nat):Int)=1:=by decide
 have w2:IntKind.u64.wrap (k:Int)=k:=Zkf (Ztd.2 (by omega))
 rw [w1,w2] at hS
 have hmul:Z5k 1 (k:Int)=some (0,(k:Int)):=by
  unfold Z5k ZNc;rw [if_pos (by omega),Za];simp only;congr 2 <;> omega
 refine ZHq hS wn rfl zl (Zfa hS [.int .u64 1,.int .u64 (k:Int)] ZVu rfl rfl) (bmul_w hS.vin (show Rep.rel (Zd .u64) _ [.int .u64 1] 1 from ZE (by decide)) (show Rep.rel (Zd .u64) _ [.int .u64 (k:Int)] (k:Int) from ZE (Ztd.2 (by omega))) hmul) ?_;rintro _ v1 fa wo hle ⟨r0,r1,rfl,⟨rfl,_⟩,⟨rfl,_⟩⟩ hS;refine mv hS rfl fun fa hS=>?_;refine ov hS rfl (ZKa hS rfl rfl) fun fa hS=>?_;refine ov hS rfl (ZKa hS rfl rfl) fun fa hS=>?_;refine mw hS rfl fun fa hS=>?_;refine mw hS rfl fun fa hS=>?_;refine oe ?_;refine wp_seq_k fun N2 hN2=>?_;refine sr ?_;refine mv hS rfl fun fa hS=>?_;refine ov hS rfl (Zg hS rfl rfl ZJd) fun fa hS=>?_;have g1:decide ((0:Int)<0)=false:=rfl;have hS:St _ _ _ ((22,Value.bool false) :: _) _ _ _ _:=hS;refine mv hS rfl fun fa hS=>?_;refine op_v hS (Zvg hS rfl rfl rfl zl) rfl zl (ZC hS rfl) fun fa hS=>?_;refine op_v hS (Zvg hS rfl rfl rfl zl) rfl zl (Zg hS rfl rfl ZJd) fun fa hS=>?_;refine ov hS rfl (ZXb (b:=false) hS rfl rfl) fun fa hS=>?_;refine oe ?_;refine ZU hS rfl (decide_eq_false (by omega)) ?_;refine wp_skip ?_;refine Zh (hN2 _ _ ?_);refine sr ?_;refine mv hS rfl fun fa hS=>?_;refine ov hS rfl (ZWd hS rfl (Zju _)) fun fa hS=>?_;have w3:IntKind.i64.wrap (k:Int)=k:=Zkf (Zib.2 (by omega));rw [w3] at hS;obtain ⟨b2,wo,hrun,hS'⟩:=ZFp ZOo hS (l:=(k:Int)) (c:=(k:Int)) h0 (Int.le_refl _) hb1 hb2
 refine ZTb wn rfl zl (hrun rfl rfl) hS' fun fa hS=>?_;refine mw hS rfl fun fa hS=>?_;refine oe ?_;rw [hk] at hS;have hS:=hS.fr' (σ':=[(7,.slice (mkA (some b2)) k k),(0,.slice (some ⟨b,off,none⟩) 1 c)]) rfl;have src1:∀ {σ:List (Nat×Value)} {ℓ:List Loc} {v':Zb} {a:Act} {w':World},St 48 w v σ ℓ v' a w'→∀ j u,c1[j]? = some u→w'.cell? ((⟨b,off,none⟩:Addr).add j)=some u:=fun hS j u hu=>by
  have:=(hS.view (At.mono hS.vst.le hAt)).cell hu
  rwa [ZXa]
 have hpl1:c1.all plain=true:=Rep.flat _ hrc;obtain ⟨zc,hzc⟩:∃ zc:List Value,zc=(Value.agg #[Value.bool false,Value.slice none 0 0,Value.slice none 0 0]:Value).cells.toList:=⟨_,rfl⟩;have hzl:zc.length=(ZAb).n:=by rw [hzc];rfl
 rw [← hzc] at hS
 let Inv:Nat→Act→World→Prop:=fun j a w'=>∃ v',j≤k∧(0<k→0<j)∧St 48 w v [(8,.int .i64 (j:Int)),(7,.slice (mkA (some b2)) k k)] [.own (some b2) 42 (ZAb).n k k ((List.replicate j c1).flatten++(List.replicate (k-j) zc).flatten)] v' a w'
 have rl:=fun n=>ZWk hl1 n;have rpl:∀ n:Nat,((List.replicate n c1).flatten).all plain=true:=fun n=>Zov hpl1 n;have step:=fun j m (hjm:j+m≤k)=>rp_step (k:=k) hl1 hzl hjm;refine sr ?_;refine mv hS rfl fun fa hS=>?_;refine mv hS rfl fun fa hS=>?_;have hS1:St 48 w v _ [.own (some b2) 42 (ZAb).n k k ((List.replicate 0 c1).flatten++(List.replicate (k-0) zc).flatten)] v1 fa wo:=hS;obtain ⟨wo2,hr,hS'⟩:=Z5q (t:=30) (sT:=30) ZOo hS1 (i:=0) rfl (p:=0) (k:=min 1 k) (c:=(List.replicate (min 1 k) c1).flatten) (rl _) (by omega) (rpl _) (ad:=⟨b,off,none⟩) (sLen:=1) (sCap:=c) (dLen:=k) (dCap:=k) (fun j u hu=>by
  rcases Nat.lt_or_ge 0 k with hk0 | hk0
  ·rw [show min 1 k=1 by omega] at hu;simp only [List.replicate_one,List.flatten_cons,List.flatten_nil,List.append_nil] at hu;exact src1 hS1 j u hu
  ·rw [show min 1 k=0 by omega] at hu;simp at hu) rfl
 have hst:=step 0 (min 1 k) (by omega);simp only [List.set_cons_zero] at hS';rw [hst] at hS';simp only [Nat.zero_add] at hS';rw [Nat.zero_mul] at hr;refine ZTb wn rfl zl (Z9t hS1 rfl rfl (hr _)) hS' fun fa hS=>?_;refine mw hS rfl fun fa hS=>?_;refine oe ?_;have hS:=hS.fr' (σ':=[(8,.int .i64 ((min 1 k:Nat):Int)),(7,.slice (mkA (some b2)) k k)]) rfl;refine wp_seq_k fun N3 hN3=>?_;refine wp_block ?_;refine wp_loop_fuel (fun m a w'=>∃ j,k-j<m∧Inv j a w') (k+1) ⟨min 1 k,by omega,v1,by omega,by omega,hS⟩ (fun a w' ⟨j,h,_⟩=>by omega) ?_;rintro m fa wo3 ⟨j,hjm,v3,hjk,hj0,hS⟩ N hN;refine wp_seq_k fun N4 hN4=>?_;refine sr ?_;refine mv hS rfl fun fa hS=>?_;refine mv hS rfl fun fa hS=>?_;refine ov hS rfl (Z5e hS rfl rfl Znl) fun fa hS=>?_;refine ov hS rfl (Zg hS rfl rfl Zpc) fun fa hS=>?_;refine oe ?_;by_cases hlt:j<k
 ·refine ZY hS rfl (decide_eq_true (by omega)) ?_;refine wp_skip ?_;refine Zh (hN4 _ _ ?_);refine wp_block ?_;have hS:=hS.fr' (σ':=[(8,.int .i64 (j:Int)),(7,.slice (mkA (some b2)) k k)]) rfl;refine Zhf (fl:=#[true,true,true,true,true,true,true,false,false,false]) Zcv (by kernel_rfl) hS ?_;intro ops hops hF wo hS;refine rf hops hF 0 rfl (by kernel_rfl) rfl hS (ZC hS rfl) fun fa hS=>?_;refine rf hops hF 1 rfl (by kernel_rfl) rfl hS (ZC hS rfl) fun fa hS=>?_;refine rf hops hF 2 rfl (by kernel_rfl) rfl hS (ZC hS rfl) fun fa hS=>?_;refine rf hops hF 3 rfl (by kernel_rfl) rfl hS (ZPw hS Znl rfl rfl (by omega) (by omega)) fun fa hS=>?_;refine rf hops hF 4 rfl (by kernel_rfl) rfl hS (ZC hS rfl) fun fa hS=>?_;refine rf hops hF 5 rfl (by kernel_rfl) rfl hS (ZC hS rfl) fun fa hS=>?_;refine rf hops hF 6 rfl (by kernel_rfl) rfl hS (Z4w hS Znl rfl rfl (by omega) (by omega)) fun fa hS=>?_;rw [Nat.zero_add] at hS;obtain ⟨wo',hr,hS'⟩:=Z5q (t:=30) (sT:=30) ZOo hS (i:=0) rfl (p:=j) (k:=min j (k-j)) (c:=(List.replicate (min j (k-j)) c1).flatten) (rl _) (by omega) (rpl _) (ad:=⟨b2,0,none⟩) (sLen:=j) (sCap:=k) (dLen:=k-j) (dCap:=k-j) (fun i u hu=>by
   have hi:=(List.getElem?_eq_some_iff.1 hu).1;refine Z4l hS (j:=0) rfl i u ?_;rw [Zpq (c:=c1) (m:=min j (k-j)) (n:=j) (by omega),List.append_assoc,List.getElem?_append_left hi];exact hu) rfl
  have hst:=step j (min j (k-j)) (by omega);simp only [List.set_cons_zero] at hS';rw [hst] at hS';refine Zsk hops hF 7 (by kernel_rfl) ?_;refine nx_ex' [3,6,1,2,4,5] [0] hops rfl (by kernel_rfl) wn rfl zl (Z9t hS rfl rfl (hr _)) hS' fun fa hS=>?_;refine ⟨(py hS rfl rfl (ZC hS rfl) Zzc),?_⟩;refine Zsk hops hF 8 (by kernel_rfl) ?_;have hadd:chk .i64 ((j:Int)+((min j (k-j):Nat):Int))=some ((j+min j (k-j):Nat):Int):=by rw [Zr (by omega) (by omega)];rfl
  refine nv [0,7,3,6,1,2,4,5] [] hops rfl (by kernel_rfl) rfl hS (Zg hS rfl rfl (Z2a hadd)) fun fa hS=>?_;refine ⟨Zzc,?_⟩;refine Zsk hops hF 9 (by kernel_rfl) ?_;refine nv [0,1,2,3,4,5,6,7,8] [] hops rfl (by kernel_rfl) rfl hS (ZAd hS rfl) fun fa hS=>?_;refine ⟨Zzc,?_⟩;refine ZVt hops hF (by kernel_rfl) ?_;refine ZIb ?_;have hj0:=hj0 (by omega);exact Zh (hN _ _ ⟨j+min j (k-j),by omega,v3,by omega,fun _=>by omega,hS.fr' rfl⟩)
 refine ZU hS rfl (decide_eq_false (by omega)) ?_;refine wp_exit ?_;refine Z6 ?_;refine Z6 ?_;refine Zub ?_;refine Zh (hN3 _ _ ?_);have hjk:j=k:=by omega
 subst hjk;rw [Nat.sub_self,List.replicate_zero,List.flatten_nil,List.append_nil] at hS;refine sr ?_;refine mv hS rfl fun fa hS=>?_;refine mw hS rfl fun fa hS=>?_;refine oe ?_;refine wp_ret ?_;exact Zcp hS (i:=0) rfl (Z1a rfl (Z0 hS rfl)) (Znf (Rep.mono _ hS.vst.le hrc) _) (List.length_replicate (n:=j) (a:=y)).symm
end Go.Eng
set_option maxRecDepth 100000
set_option maxHeartbeats 4000000
namespace Go.Eng
open Go.Proofs Go.RowKit
def ZIh:FuncId×Con:=(35,⟨[.slice (.slice (.leaf 3))],[.slice (.slice (.leaf 3)),.int .i64],fun p=>Z4g p⟩)
theorem Zpz (m : List (List Rat)) : Zl ⟨Tryz.prog, [(38, 0), (40, 2), (42, 3), (47, 1), (49, 4)], [ZRc, ZSb, Zvf, Zwc, ZOk, ZWc], [], [Z9f], [], [((42, "Neg"), 221)], []⟩ [(74, Tryz.f74, .no)] Tryz.f35 (.two .no (.two .no (.two .no (.two .no (.two (.two .no (.two (.cut ⟨⟨[0, 4, 5, 22], [], [.s 7 (.own 30 (.slice (.leaf 3))), .s 23 (.dat (.int .i64))]⟩, [(.exit 0, ⟨[], [], [.s 7 (.own 30 (.slice (.leaf 3)))]⟩)]⟩ (.two (.two .no (.two .no (.two (.cut ⟨⟨[], [], []⟩, [(.norm, ⟨[0, 4, 5, 22, 23], [], [.s 7 (.own 30 (.slice (.leaf 3)))]⟩)]⟩ (.two (.two .no (.two .no (.two .no (.two .no (.two (.two .no (.two (.cut ⟨⟨[0, 4, 5, 7, 8, 9, 22, 23, 36, 37], [], [.s 38 (.dat (.int .i64)), .l (.sl 9) (.own 42 (.leaf 3))]⟩, [(.exit 2, ⟨[0, 4, 5, 7, 9, 22, 23], [], [.l (.sl 9) (.own 42 (.leaf 3))]⟩)]⟩ .no) .no)) .no))))) .no)) .no))) .no)) .no)) .no))))) [.slice (.slice (.leaf 3))] [.slice (.slice (.leaf 3)), .int .i64] (m) = Z4g m := by kernel_rfl
theorem Zmq : Zk Tryz.prog ZIh.1 ZIh.2 := Zm (C := ⟨Tryz.prog, [(38, 0), (40, 2), (42, 3), (47, 1), (49, 4)], [ZRc, ZSb, Zvf, Zwc, ZOk, ZWc], [], [Z9f], [], [((42, "Neg"), 221)], []⟩) ⟨Z6i, Zng, Z1n, Zli, Zbz, ZXi, trivial⟩ ⟨Z6o, trivial⟩ trivial ⟨ZZk, trivial⟩ (inl := [(74, Tryz.f74, .no)]) ⟨⟨Tryz.func74, fun _ _ => by kernel_rfl⟩, trivial⟩ (ann := (.two .no (.two .no (.two .no (.two .no (.two (.two .no (.two (.cut ⟨⟨[0, 4, 5, 22], [], [.s 7 (.own 30 (.slice (.leaf 3))), .s 23 (.dat (.int .i64))]⟩, [(.exit 0, ⟨[], [], [.s 7 (.own 30 (.slice (.leaf 3)))]⟩)]⟩ (.two (.two .no (.two .no (.two (.cut ⟨⟨[], [], []⟩, [(.norm, ⟨[0, 4, 5, 22, 23], [], [.s 7 (.own 30 (.slice (.leaf 3)))]⟩)]⟩ (.two (.two .no (.two .no (.two .no (.two .no (.two (.two .no (.two (.cut ⟨⟨[0, 4, 5, 7, 8, 9, 22, 23, 36, 37], [], [.s 38 (.dat (.int .i64)), .l (.sl 9) (.own 42 (.leaf 3))]⟩, [(.exit 2, ⟨[0, 4, 5, 7, 9, 22, 23], [], [.l (.sl 9) (.own 42 (.leaf 3))]⟩)]⟩ .no) .no)) .no))))) .no)) .no))) .no)) .no)) .no)))))) Tryz.func35 (fun _ _ => by kernel_rfl) rfl (fun v vals x z ha hz => (Zpz x).trans hz)
end Go.Eng
set_option maxRecDepth 100000
set_option maxHeartbeats 4000000
namespace Go.Eng
open Go.Proofs Go.RowKit
def Zqh:FuncId×Con:=(82,⟨[.slice (.pair (.int .i64) (.int .i64))],[.slice (.pair (.leaf 4) (.pair (.leaf 4) (.pair (.leaf 4) (.leaf 4))))],fun p=>ZNi p⟩)
theorem Zdx (l:List (Int×Int)):Zl ⟨Tryz.prog,[(38,0),(40,2),(42,3),(47,1),(49,4)],[Zuh,Z4d],[],[],[],[],[]⟩ [] Tryz.f82 (.two .no (.two .no (.two (.two .no (.two (.cut ⟨⟨[6,7],[],[.s 3 (.own 51 (.pair (.leaf 4) (.pair (.leaf 4) (.pair (.leaf 4) (.leaf 4))))),.s 8 (.dat (.int .i64))]⟩,[(.exit 0,⟨[],[],[.s 3 (.own 51 (.pair (.leaf 4) (.pair (.leaf 4) (.pair (.leaf 4) (.leaf 4)))))]⟩)]⟩ .no) .no)) .no))) [.slice (.pair (.int .i64) (.int .i64))] [.slice (.pair (.leaf 4) (.pair (.leaf 4) (.pair (.leaf 4) (.leaf 4))))] (l)=ZNi l:=by kernel_rfl
theorem Zxr:Zk Tryz.prog Zqh.1 Zqh.2:=Zm (C:=⟨Tryz.prog,[(38,0),(40,2),(42,3),(47,1),(49,4)],[Zuh,Z4d],[],[],[],[],[]⟩) ⟨rof_k,ZMl,trivial⟩ trivial trivial trivial (inl:=[]) trivial (ann:=(.two .no (.two .no (.two (.two .no (.two (.cut ⟨⟨[6,7],[],[.s 3 (.own 51 (.pair (.leaf 4) (.pair (.leaf 4) (.pair (.leaf 4) (.leaf 4))))),.s 8 (.dat (.int .i64))]⟩,[(.exit 0,⟨[],[],[.s 3 (.own 51 (.pair (.leaf 4) (.pair (.leaf 4) (.pair (.leaf 4) (.leaf 4)))))]⟩)]⟩ .no) .no)) .no)))) Tryz.func82 (fun _ _=>by kernel_rfl) rfl (fun v vals x z ha hz=>(Zdx x).trans hz)
end Go.Eng
set_option maxRecDepth 100000
set_option maxHeartbeats 4000000
namespace Go.Eng
open Go.Proofs Go.RowKit
def ZKm:FuncId×Con:=(81,⟨[.slice (.slice (.pair (.int .i64) (.int .i64)))],[.slice (.slice (.pair (.leaf 4) (.pair (.leaf 4) (.pair (.leaf 4) (.leaf 4)))))],fun p=>Zwp p⟩)
theorem Z2u (m:List (List (Int×Int))):Zl ⟨Tryz.prog,[(38,0),(40,2),(42,3),(47,1),(49,4)],[Zqh],[],[],[],[],[]⟩ [] Tryz.f81 (.two .no (.two .no (.two (.two .no (.two (.cut ⟨⟨[0,3,9],[],[.s 10 (.dat (.int .i64)),.l (.sl 3) (.own 95 (.slice (.pair (.leaf 4) (.pair (.leaf 4) (.pair (.leaf 4) (.leaf 4))))))]⟩,[(.exit 0,⟨[3],[],[.l (.sl 3) (.own 95 (.slice (.pair (.leaf 4) (.pair (.leaf 4) (.pair (.leaf 4) (.leaf 4))))))]⟩)]⟩ .no) .no)) .no))) [.slice (.slice (.pair (.int .i64) (.int .i64)))] [.slice (.slice (.pair (.leaf 4) (.pair (.leaf 4) (.pair (.leaf 4) (.leaf 4)))))] (m)=Zwp m:=by kernel_rfl
theorem Z6y:Zk Tryz.prog ZKm.1 ZKm.2:=Zm (C:=⟨Tryz.prog,[(38,0),(40,2),(42,3),(47,1),(49,4)],[Zqh],[],[],[],[],[]⟩) ⟨Zxr,trivial⟩ trivial trivial trivial (inl:=[]) trivial (ann:=(.two .no (.two .no (.two (.two .no (.two (.cut ⟨⟨[0,3,9],[],[.s 10 (.dat (.int .i64)),.l (.sl 3) (.own 95 (.slice (.pair (.leaf 4) (.pair (.leaf 4) (.pair (.leaf 4) (.leaf 4))))))]⟩,[(.exit 0,⟨[3],[],[.l (.sl 3) (.own 95 (.slice (.pair (.leaf 4) (.pair (.leaf 4) (.pair (.leaf 4) (.leaf 4))))))]⟩)]⟩ .no) .no)) .no)))) Tryz.func81 (fun _ _=>by kernel_rfl) rfl (fun v vals x z ha hz=>(Z2u x).trans hz)
end Go.Eng
set_option maxRecDepth 100000
set_option maxHeartbeats 4000000
namespace Go.Eng
open Go.Proofs Go.RowKit
def ZJk:FuncId×Con:=(36,⟨[.slice (.slice (.pair (.int .i64) (.int .i64))),.slice (.pair (.int .i64) (.int .i64)),.slice (.pair (.int .i64) (.int .i64))],[.pair (.slice (.slice (.leaf 3))) (.pair (.slice (.leaf 3)) (.slice (.leaf 3))),.pair (.slice (.slice (.pair (.leaf 4) (.pair (.leaf 4) (.pair (.leaf 4) (.leaf 4)))))) (.pair (.slice (.pair (.leaf 4) (.pair (.leaf 4) (.pair (.leaf 4) (.leaf 4))))) (.slice (.pair (.leaf 4) (.pair (.leaf 4) (.pair (.leaf 4) (.leaf 4))))))],fun p=>ZWo p.1 p.2.1 p.2.2⟩)
theorem ZDw (a:List (List (Int×Int))) (b:List (Int×Int)) (c:List (Int×Int)):Zl ⟨Tryz.prog,[(38,0),(40,2),(42,3),(47,1),(49,4)],[ZDf,Ztf,ZKm,Zqh],[],[],[],[],[]⟩ [] Tryz.f36 .no [.slice (.slice (.pair (.int .i64) (.int .i64))),.slice (.pair (.int .i64) (.int .i64)),.slice (.pair (.int .i64) (.int .i64))] [.pair (.slice (.slice (.leaf 3))) (.pair (.slice (.leaf 3)) (.slice (.leaf 3))),.pair (.slice (.slice (.pair (.leaf 4) (.pair (.leaf 4) (.pair (.leaf 4) (.leaf 4)))))) (.pair (.slice (.pair (.leaf 4) (.pair (.leaf 4) (.pair (.leaf 4) (.leaf 4))))) (.slice (.pair (.leaf 4) (.pair (.leaf 4) (.pair (.leaf 4) (.leaf 4))))))] (a,b,c)=ZWo a b c:=by kernel_rfl
theorem Zwy:Zk Tryz.prog ZJk.1 ZJk.2:=Zm (C:=⟨Tryz.prog,[(38,0),(40,2),(42,3),(47,1),(49,4)],[ZDf,Ztf,ZKm,Zqh],[],[],[],[],[]⟩) ⟨ZYp,ZJp,Z6y,Zxr,trivial⟩ trivial trivial trivial (inl:=[]) trivial (ann:=.no) Tryz.func36 (fun _ _=>by kernel_rfl) rfl (fun v vals x z ha hz=>(ZDw x.1 x.2.1 x.2.2).trans hz)
end Go.Eng
set_option maxRecDepth 100000
set_option maxHeartbeats 4000000
namespace Go.Eng
open Go.Proofs Go.RowKit
def Z3h:FuncId×Con:=(83,⟨[.pair (.slice (.slice (.leaf 3))) (.pair (.slice (.leaf 3)) (.slice (.leaf 3)))],[.int .i64],fun p=>Z6k p⟩)
theorem ZWw (p:(List (List Rat))×(List Rat)×(List Rat)):Zl ⟨Tryz.prog,[(38,0),(40,2),(42,3),(47,1),(49,4)],[],[],[],[],[],[]⟩ [(96,Tryz.f96,.no),(113,Tryz.f113,.no),(131,Tryz.f131,.cut ⟨⟨[],[],[]⟩,[(.ret,⟨[],[],[.s 1000 (.dat (.int .i64))]⟩)]⟩ (.two .no (.two (.two .no (.two (.cut ⟨⟨[0,1,7],[],[.s 8 (.dat (.int .i64))]⟩,[(.exit 0,⟨[],[],[]⟩),(.ret,⟨[],[],[.s 1000 (.dat (.int .i64))]⟩)]⟩ .no) .no)) .no)))] Tryz.f83 (.two .no (.two (.two (.cut ⟨⟨[],[],[]⟩,[(.norm,⟨[],[],[.s 27 (.dat .bool)]⟩)]⟩ .no) .no) .no)) [.pair (.slice (.slice (.leaf 3))) (.pair (.slice (.leaf 3)) (.slice (.leaf 3)))] [.int .i64] (p)=Z6k p:=by kernel_rfl
theorem Zpt:Zk Tryz.prog Z3h.1 Z3h.2:=Zm (C:=⟨Tryz.prog,[(38,0),(40,2),(42,3),(47,1),(49,4)],[],[],[],[],[],[]⟩) trivial trivial trivial trivial (inl:=[(96,Tryz.f96,.no),(113,Tryz.f113,.no),(131,Tryz.f131,.cut ⟨⟨[],[],[]⟩,[(.ret,⟨[],[],[.s 1000 (.dat (.int .i64))]⟩)]⟩ (.two .no (.two (.two .no (.two (.cut ⟨⟨[0,1,7],[],[.s 8 (.dat (.int .i64))]⟩,[(.exit 0,⟨[],[],[]⟩),(.ret,⟨[],[],[.s 1000 (.dat (.int .i64))]⟩)]⟩ .no) .no)) .no)))]) ⟨⟨Tryz.func96,fun _ _=>by kernel_rfl⟩,⟨Tryz.func113,fun _ _=>by kernel_rfl⟩,⟨Tryz.func131,fun _ _=>by kernel_rfl⟩,trivial⟩ (ann:=(.two .no (.two (.two (.cut ⟨⟨[],[],[]⟩,[(.norm,⟨[],[],[.s 27 (.dat .bool)]⟩)]⟩ .no) .no) .no))) Tryz.func83 (fun _ _=>by kernel_rfl) rfl (fun v vals x z ha hz=>(ZWw x).trans hz)
end Go.Eng
namespace Go.Eng
open Go.RowKit
def endO (ty:TypeId) (t:T) (c:V) (l:Lo):Option (List t.den):=match c with
 | .cons (.own u) .nl=>match lkE l u with
  | some ⟨_,_,.own ty' t' xs false⟩=>match Nat.beq ty' ty with
   | true=>ZOc t' t xs
   | false=>none
  | _=>none
 | _=>none
def Zul (C:Cf) (inl:Inl) (fn:Func) (ann:Ann) (ats:List T) (ty:TypeId) (t:T) (x:Zia ats):Option (List t.den):=match fn.body with
 | some c=>Z8b C (ZQh C inl 20) fn.results.toList 0 fn.ntmps c _ ann (Ztc 0 0 (Zpf ats x)) [] 1 ⟨fun _ _ _=>none,fun _ _ _ _=>none,fun c l _=>endO ty t c l⟩
 | none=>none
theorem Zmu {C:Cf} (hC:CfOK C) {inl:Inl} (hinl:Zcd C inl) {f:FuncId} {fn:Func} {ann:Ann} {ats:List T} {ty:TypeId} {t:T} {x:Zia ats} {z:List t.den} (hf:C.P.funcs[f]? = some fn) (hl:Nat.ble ats.length fn.ntmps=true) (h:Zul C inl fn ann ats ty t x=some z)
  {w:World} {v:Zb} {vals:List Value} (hv:VIn v w) (ha:ZWb v ats vals x):RetO C.P f vals.toArray w v fun y v' w'=>OwnR t.rep ty t.n z w y v' w':=by
 unfold Zul at h;split at h
 ·rename_i c hc;obtain ⟨h1,h2,h3⟩:=Z8m (γ:=fun _=>.box 0) (l:=[]) (U:=(· < 0)) ha;have hK:vals.length≤fn.ntmps:=by rw [h3];exact Nat.le_of_ble_eq_true hl
  refine Zil hv hf hc rfl hK fun a hS=>?_;have hr:RelX fn.ntmps (fun _ _=>False) w v (· < 1) (· < 1) (Ztc 0 0 (Zpf ats x)) [] a w (fun _=>.box 0) v []:=by
   refine ⟨⟨hS.size,hS.dfr,fun t x h=>(by cases h),hS.ext,hS.vst,hS.loc,hS.nd⟩,fun t e he=>?_,⟨[],trivial,List.Perm.refl _⟩,List.nodup_nil,fun t e he=>?_,fun e he=>(by cases he),fun x y h=>h.elim⟩
   ·obtain ⟨y,q1,q2,q3,q4,q5⟩:=ZBd h1 h2 he;have:=hS.fr t y ?_
    ·rw [this];exact q3
    ·have q2:vals[t-0]? = some y:=q2;have:=Z9k (k:=0) (t:=t) (y:=y) (by simpa using q2)
     rwa [Nat.zero_add] at this
   ·obtain ⟨y,q1,q2,q3,q4,q5⟩:=ZBd h1 h2 he;exact ⟨V.ok.mono (fun k h=>absurd h (Nat.not_lt_zero k)) q4,by show e.st<1;omega⟩
  refine Ztn hC (Zaq hC hinl 20) c h ⟨_,_,_,hr⟩ ⟨fun f' l' n' a' w' hp hn' ho' hr'=>(by cases hp),fun i f' l' n' a' w' hp hn' ho' hr'=>(by cases hp),fun c l' n' a' w' hp hn' ho' hr'=>?_⟩;obtain ⟨γ',v',ℓ',vals',hr',hc',hk',hres⟩:=hr';have hp:endO ty t c l'=some z:=hp;unfold endO at hp;split at hp
  ·rename_i u;split at hp
   ·rename_i kk st ty' t' xs he;split at hp
    ·rename_i hty;have hty:=Nat.eq_of_beq_eq_true hty;subst hty;obtain ⟨e1,e2⟩:=Zda hp
     cases e1;cases e2
     obtain ⟨c1,xs1,rfl,⟨y,rfl,_,hy⟩,hx1⟩:=hc';have hx1:xs1=[]:=hx1;subst hx1;obtain ⟨ob,cap,g1,rfl⟩:=hy _ he;obtain ⟨hkk,es,hes,hmem⟩:=hr'.loc he;have hkk:kk=_:=hkk;subst hkk;obtain ⟨ob',cap',cs,q1,q2,rfl⟩:=hes;have q1:γ' kk = .own ob' cap':=q1;rw [g1] at q1;cases q1;obtain ⟨jj,hj⟩:=hmem _ List.mem_cons_self;obtain ⟨hh,hb⟩:=hr'.st.loc _ (List.mem_of_getElem? hj);refine ⟨hr'.st.dfr,_,Z1j hres,_,v',rfl,hr'.st.ext.ext,hr'.st.vst.ext,ob,_,cap,cs,rfl,hh,fun b e=>?_,q2,rfl⟩;obtain ⟨h1,h2⟩:=hb b e;rcases h1 with h1 | h1
     ·exact ⟨h1,h2⟩
     ·cases h1
    ·cases hp
   ·cases hp
  ·cases hp
 ·cases h
theorem cono_k {C:Cf} (hc:CL C.P C.cons) (ho:OL C.P C.owns) (hi:IL C.P C.ins) (hm:ML C.P C.meths) {inl:Inl} (hn:NL C.P inl) {f:FuncId} {fn:Func} {ann:Ann} {con:ConO} (hf:C.P.funcs[f]? = some fn) (hen:Z9 C.P f) (hl:Nat.ble con.args.length fn.ntmps=true)
  (h:∀ x z,con.F x=some z→Zul C inl fn ann con.args con.ty con.t x=some z) (hq:QL C.P C.omats:=by exact trivial):ZNg C.P f con :=
 fun _ _ _ x z hv ha hz=>⟨hen,Zmu (CfOK.of hc ho hi hm hq) (Zcd.of hn) hf hl (h x z hz) hv ha⟩
def endM (ty ty2:TypeId) (t:T) (c:V) (l:Lo):Option (List (List t.den)):=match c with
 | .cons (.own u) .nl=>match lkE l u with
  | some ⟨_,_,.mat ty' ty2' t' m _⟩=>match Nat.beq ty' ty,Nat.beq ty2' ty2 with
   | true,true=>ZPb t' t m
   | _,_=>none
  | _=>none
 | _=>none
def Z5j (C:Cf) (inl:Inl) (fn:Func) (ann:Ann) (ats:List T) (ty ty2:TypeId) (t:T) (x:Zia ats):Option (List (List t.den)):=match fn.body with
 | some c=>Z8b C (ZQh C inl 20) fn.results.toList 0 fn.ntmps c _ ann (Ztc 0 0 (Zpf ats x)) [] 1 ⟨fun _ _ _=>none,fun _ _ _ _=>none,fun c l _=>endM ty ty2 t c l⟩
 | none=>none
theorem ZVy {ℓ es:List Loc} {E:List Loc} (h:(ℓ.filterMap Loc.blk).Nodup) (hp:ℓ.Perm (es++E)):(es.filterMap Loc.blk).Nodup:=by
 have h1:=(hp.filterMap Loc.blk).nodup_iff.1 h;rw [List.filterMap_append] at h1;exact (List.nodup_append.1 h1).1
theorem ZFw {C:Cf} (hC:CfOK C) {inl:Inl} (hinl:Zcd C inl) {f:FuncId} {fn:Func} {ann:Ann} {ats:List T} {ty ty2:TypeId} {t:T} {x:Zia ats} {z:List (List t.den)} (hf:C.P.funcs[f]? = some fn) (hl:Nat.ble ats.length fn.ntmps=true) (h:Z5j C inl fn ann ats ty ty2 t x=some z)
  {w:World} {v:Zb} {vals:List Value} (hv:VIn v w) (ha:ZWb v ats vals x):RetO C.P f vals.toArray w v (OwnM ty ty2 t z w):=by
 unfold Z5j at h;split at h
 ·rename_i c hc;obtain ⟨h1,h2,h3⟩:=Z8m (γ:=fun _=>.box 0) (l:=[]) (U:=(· < 0)) ha;have hK:vals.length≤fn.ntmps:=by rw [h3];exact Nat.le_of_ble_eq_true hl
  refine Zil hv hf hc rfl hK fun a hS=>?_;have hr:RelX fn.ntmps (fun _ _=>False) w v (· < 1) (· < 1) (Ztc 0 0 (Zpf ats x)) [] a w (fun _=>.box 0) v []:=by
   refine ⟨⟨hS.size,hS.dfr,fun t x h=>(by cases h),hS.ext,hS.vst,hS.loc,hS.nd⟩,fun t e he=>?_,⟨[],trivial,List.Perm.refl _⟩,List.nodup_nil,fun t e he=>?_,fun e he=>(by cases he),fun x y h=>h.elim⟩
   ·obtain ⟨y,q1,q2,q3,q4,q5⟩:=ZBd h1 h2 he;have:=hS.fr t y ?_
    ·rw [this];exact q3
    ·have q2:vals[t-0]? = some y:=q2;have:=Z9k (k:=0) (t:=t) (y:=y) (by simpa using q2)
     rwa [Nat.zero_add] at this
   ·obtain ⟨y,q1,q2,q3,q4,q5⟩:=ZBd h1 h2 he;exact ⟨V.ok.mono (fun k h=>absurd h (Nat.not_lt_zero k)) q4,by show e.st<1;omega⟩
  refine Ztn hC (Zaq hC hinl 20) c h ⟨_,_,_,hr⟩ ⟨fun f' l' n' a' w' hp hn' ho' hr'=>(by cases hp),fun i f' l' n' a' w' hp hn' ho' hr'=>(by cases hp),fun c l' n' a' w' hp hn' ho' hr'=>?_⟩;obtain ⟨γ',v',ℓ',vals',hr',hc',hk',hres⟩:=hr';have hp:endM ty ty2 t c l'=some z:=hp;unfold endM at hp;split at hp
  ·rename_i u;split at hp
   ·rename_i kk st ty' ty2' t' m' hv' he;split at hp
    ·rename_i hty hty2;have hty:=Nat.eq_of_beq_eq_true hty;have hty2:=Nat.eq_of_beq_eq_true hty2;subst hty hty2;obtain ⟨e1,e2⟩:=Zda hp
     cases e1;cases e2
     obtain ⟨c1,xs1,rfl,⟨y,rfl,_,hy⟩,hx1⟩:=hc';have hx1:xs1=[]:=hx1;subst hx1;obtain ⟨ob,cap,rows0,g1,rfl⟩:=hy _ he;obtain ⟨E,hE,hpm⟩:=hr'.lr;obtain ⟨es,E',r1,r2,r3⟩:=Zlg hE he;obtain ⟨ob',cap',rows,es2,q1,q2,rfl⟩:=r1;have hkk:kk=_:=(ZA he).2;subst hkk;have q1:γ' kk = .mat ob' cap' rows:=q1;rw [g1] at q1;cases q1;refine ⟨hr'.st.dfr,_,Z1j hres,_,v',rfl,hr'.st.ext.ext,hr'.st.vst.ext,_,_,_,es2,rfl,q2,fun x hx=>?_,ZVy hr'.st.nd (hpm.trans r3)⟩;obtain ⟨hh,hb⟩:=hr'.st.loc x ((hpm.trans r3).mem_iff.2 (List.mem_append_left _ hx));refine ⟨hh,fun b e=>?_⟩;obtain ⟨h1,h2⟩:=hb b e;rcases h1 with h1 | h1
     ·exact ⟨h1,h2⟩
     ·cases h1
    ·cases hp
   ·cases hp
  ·cases hp
 ·cases h
theorem Zkq {C:Cf} (hc:CL C.P C.cons) (ho:OL C.P C.owns) (hi:IL C.P C.ins) (hm:ML C.P C.meths) {inl:Inl} (hn:NL C.P inl) {f:FuncId} {fn:Func} {ann:Ann} {con:ConM} (hf:C.P.funcs[f]? = some fn) (hen:Z9 C.P f) (hl:Nat.ble con.args.length fn.ntmps=true)
  (h:∀ x z,con.F x=some z→Z5j C inl fn ann con.args con.ty con.ty2 con.t x=some z) (hq:QL C.P C.omats:=by exact trivial):Zjh C.P f con :=
 fun _ _ _ x z hv ha hz=>⟨hen,ZFw (CfOK.of hc ho hi hm hq) (Zcd.of hn) hf hl (h x z hz) hv ha⟩
end Go.Eng
set_option maxRecDepth 100000
set_option maxHeartbeats 4000000
namespace Go.Eng
open Go.Proofs Go.RowKit
def ZTc:FuncId×ConO:=(74,⟨[.int .i64],42,.leaf 3,fun p=>Zpg p⟩)
theorem Z5u (n:Int):Zul ⟨Tryz.prog,[(38,0),(40,2),(42,3),(47,1),(49,4)],[Zwc],[],[Z9f],[],[],[]⟩ [] Tryz.f74 .no [.int .i64] 42 (.leaf 3) (n)=Zpg n:=by kernel_rfl
theorem Zqj:ZNg Tryz.prog ZTc.1 ZTc.2:=cono_k (C:=⟨Tryz.prog,[(38,0),(40,2),(42,3),(47,1),(49,4)],[Zwc],[],[Z9f],[],[],[]⟩) ⟨Zli,trivial⟩ ⟨Z6o,trivial⟩ trivial trivial (inl:=[]) trivial (ann:=.no) Tryz.func74 (fun _ _=>by kernel_rfl) rfl (fun x z hz=>(Z5u x).trans hz)
end Go.Eng
set_option maxRecDepth 100000
set_option maxHeartbeats 4000000
namespace Go.Eng
open Go.Proofs Go.RowKit
def Zfl:FuncId×ConM:=(101,⟨[.slice (.slice (.leaf 3))],30,42,.leaf 3,fun p=>ZNo p⟩)
theorem ZOw (m:List (List Rat)):Z5j ⟨Tryz.prog,[(38,0),(40,2),(42,3),(47,1),(49,4)],[],[8],[Z3d],[],[],[]⟩ [] Tryz.f101 (.two .no (.two .no (.two (.two .no (.two (.cut ⟨⟨[3,9,10],[],[.s 11 (.dat (.int .i64)),.l (.sl 3) (.mat 30 42 (.leaf 3))]⟩,[(.exit 0,⟨[3],[],[.l (.sl 3) (.mat 30 42 (.leaf 3))]⟩)]⟩ .no) .no)) .no))) [.slice (.slice (.leaf 3))] 30 42 (.leaf 3) (m)=ZNo m:=by kernel_rfl
theorem Zsw:Zjh Tryz.prog Zfl.1 Zfl.2:=Zkq (C:=⟨Tryz.prog,[(38,0),(40,2),(42,3),(47,1),(49,4)],[],[8],[Z3d],[],[],[]⟩) trivial ⟨Zxk,trivial⟩ trivial trivial (inl:=[]) trivial (ann:=(.two .no (.two .no (.two (.two .no (.two (.cut ⟨⟨[3,9,10],[],[.s 11 (.dat (.int .i64)),.l (.sl 3) (.mat 30 42 (.leaf 3))]⟩,[(.exit 0,⟨[3],[],[.l (.sl 3) (.mat 30 42 (.leaf 3))]⟩)]⟩ .no) .no)) .no)))) Tryz.func101 (fun _ _=>by kernel_rfl) rfl (fun x z hz=>(ZOw x).trans hz)
end Go.Eng
set_option maxRecDepth 100000
set_option maxHeartbeats 4000000
namespace Go.Eng
open Go.Proofs Go.RowKit
def ZBm:FuncId×Con:=(117,⟨[.ptr (.pair (.slice (.slice (.leaf 3))) (.pair (.slice (.leaf 3)) (.pair (.slice (.leaf 3)) (.pair (.leaf 3) (.pair (.slice (.int .i64)) (.slice (.int .i64))))))),.int .i64],[.slice (.leaf 3)],fun p=>Z0o p.1 p.2⟩)
theorem Zhx (t:(List (List Rat))×(List Rat)×(List Rat)×Rat×(List Int)×(List Int)) (n:Int):Zl ⟨Tryz.prog,[(38,0),(40,2),(42,3),(47,1),(49,4)],[],[],[ZTc],[],[],[]⟩ [] Tryz.f117 (.two .no (.two .no (.two (.two .no (.two (.cut ⟨⟨[0,1,5,13,14],[],[.s 15 (.dat (.int .i64)),.l (.sl 5) (.own 42 (.leaf 3))]⟩,[(.exit 0,⟨[5],[],[.l (.sl 5) (.own 42 (.leaf 3))]⟩)]⟩ (.two (.two .no (.two .no (.two (.two (.two .no (.two .no (.cut ⟨⟨[],[],[]⟩,[(.norm,⟨[0,1,5,13,14,15],[],[.l (.sl 5) (.own 42 (.leaf 3))]⟩)]⟩ .no))) .no) .no))) .no)) .no)) .no))) [.ptr (.pair (.slice (.slice (.leaf 3))) (.pair (.slice (.leaf 3)) (.pair (.slice (.leaf 3)) (.pair (.leaf 3) (.pair (.slice (.int .i64)) (.slice (.int .i64))))))),.int .i64] [.slice (.leaf 3)] (t,n)=Z0o t n:=by kernel_rfl
theorem Zjv:Zk Tryz.prog ZBm.1 ZBm.2:=Zm (C:=⟨Tryz.prog,[(38,0),(40,2),(42,3),(47,1),(49,4)],[],[],[ZTc],[],[],[]⟩) trivial ⟨Zqj,trivial⟩ trivial trivial (inl:=[]) trivial (ann:=(.two .no (.two .no (.two (.two .no (.two (.cut ⟨⟨[0,1,5,13,14],[],[.s 15 (.dat (.int .i64)),.l (.sl 5) (.own 42 (.leaf 3))]⟩,[(.exit 0,⟨[5],[],[.l (.sl 5) (.own 42 (.leaf 3))]⟩)]⟩ (.two (.two .no (.two .no (.two (.two (.two .no (.two .no (.cut ⟨⟨[],[],[]⟩,[(.norm,⟨[0,1,5,13,14,15],[],[.l (.sl 5) (.own 42 (.leaf 3))]⟩)]⟩ .no))) .no) .no))) .no)) .no)) .no)))) Tryz.func117 (fun _ _=>by kernel_rfl) rfl (fun v vals x z ha hz=>(Zhx x.1 x.2).trans hz)
end Go.Eng
set_option maxRecDepth 100000
set_option maxHeartbeats 4000000
namespace Go.Eng
open Go.Proofs Go.RowKit
def ZVl:FuncId×Con:=(118,⟨[.ptr (.pair (.slice (.slice (.leaf 3))) (.pair (.slice (.leaf 3)) (.pair (.slice (.leaf 3)) (.pair (.leaf 3) (.pair (.slice (.int .i64)) (.slice (.int .i64))))))),.int .i64,.int .i64],[.slice (.leaf 3)],fun p=>ZJn p.1 p.2.1 p.2.2⟩)
theorem ZQy (t : (List (List Rat)) × (List Rat) × (List Rat) × Rat × (List Int) × (List Int)) (n : Int) (k : Int) : Zl ⟨Tryz.prog, [(38, 0), (40, 2), (42, 3), (47, 1), (49, 4)], [ZWc], [], [ZTc], [], [((42, "Neg"), 221)], []⟩ [] Tryz.f118 (.two .no (.two .no (.two (.two .no (.two (.cut ⟨⟨[0, 1, 2, 7, 15, 16], [], [.s 17 (.dat (.int .i64)), .l (.sl 7) (.own 42 (.leaf 3))]⟩, [(.exit 0, ⟨[7], [], [.l (.sl 7) (.own 42 (.leaf 3))]⟩)]⟩ (.two (.two .no (.two .no (.two (.two (.two .no (.two (.cut ⟨⟨[], [], []⟩, [(.norm, ⟨[0, 1, 2, 7, 8, 9, 15, 16, 17], [], [.s 31 (.dat .bool)]⟩)]⟩ .no) (.cut ⟨⟨[], [], []⟩, [(.norm, ⟨[0, 1, 2, 7, 15, 16, 17], [], [.l (.sl 7) (.own 42 (.leaf 3))]⟩)]⟩ .no))) .no) .no))) .no)) .no)) .no))) [.ptr (.pair (.slice (.slice (.leaf 3))) (.pair (.slice (.leaf 3)) (.pair (.slice (.leaf 3)) (.pair (.leaf 3) (.pair (.slice (.int .i64)) (.slice (.int .i64))))))), .int .i64, .int .i64] [.slice (.leaf 3)] (t, n, k) = ZJn t n k := by kernel_rfl
theorem ZAw : Zk Tryz.prog ZVl.1 ZVl.2 := Zm (C := ⟨Tryz.prog, [(38, 0), (40, 2), (42, 3), (47, 1), (49, 4)], [ZWc], [], [ZTc], [], [((42, "Neg"), 221)], []⟩) ⟨ZXi, trivial⟩ ⟨Zqj, trivial⟩ trivial ⟨ZZk, trivial⟩ (inl := []) trivial (ann := (.two .no (.two .no (.two (.two .no (.two (.cut ⟨⟨[0, 1, 2, 7, 15, 16], [], [.s 17 (.dat (.int .i64)), .l (.sl 7) (.own 42 (.leaf 3))]⟩, [(.exit 0, ⟨[7], [], [.l (.sl 7) (.own 42 (.leaf 3))]⟩)]⟩ (.two (.two .no (.two .no (.two (.two (.two .no (.two (.cut ⟨⟨[], [], []⟩, [(.norm, ⟨[0, 1, 2, 7, 8, 9, 15, 16, 17], [], [.s 31 (.dat .bool)]⟩)]⟩ .no) (.cut ⟨⟨[], [], []⟩, [(.norm, ⟨[0, 1, 2, 7, 15, 16, 17], [], [.l (.sl 7) (.own 42 (.leaf 3))]⟩)]⟩ .no))) .no) .no))) .no)) .no)) .no)))) Tryz.func118 (fun _ _ => by kernel_rfl) rfl (fun v vals x z ha hz => (ZQy x.1 x.2.1 x.2.2).trans hz)
end Go.Eng
set_option maxRecDepth 100000
set_option maxHeartbeats 4000000
namespace Go.Eng
open Go.Proofs Go.RowKit
def Zuk:FuncId×Con:=(192,⟨[.leaf 2],[.int .i64],fun p=>ZPi p⟩)
theorem isign_i (x:Int):Zl ⟨Tryz.prog,[(38,0),(40,2),(42,3)],[],[],[],[],[],[]⟩ [] Tryz.f192 .no [.leaf 2] [.int .i64] (x)=ZWn x:=by kernel_rfl
theorem isign_k:Zk Tryz.prog Zuk.1 Zuk.2:=Zm (C:=⟨Tryz.prog,[(38,0),(40,2),(42,3)],[],[],[],[],[],[]⟩) trivial trivial trivial trivial (inl:=[]) trivial (ann:=.no) Tryz.func192 (fun _ _=>by kernel_rfl) rfl fun v vals x z ha hz=>(isign_i x).trans (ZZu hz)
end Go.Eng
set_option maxRecDepth 100000
set_option maxHeartbeats 4000000
namespace Go.Eng
open Go.Proofs Go.RowKit
def Zse:FuncId×Con:=(173,⟨[.leaf 3],[.int .i64],fun p=>Zld p⟩)
theorem qsign_i (x:Rat):Zl ⟨Tryz.prog,[(38,0),(40,2),(42,3)],[Zuk],[],[],[],[],[]⟩ [] Tryz.f173 .no [.leaf 3] [.int .i64] (x)=Z5o x:=by kernel_rfl
theorem Zkn:Zk Tryz.prog Zse.1 Zse.2:=Zm (C:=⟨Tryz.prog,[(38,0),(40,2),(42,3)],[Zuk],[],[],[],[],[]⟩) ⟨isign_k,trivial⟩ trivial trivial trivial (inl:=[]) trivial (ann:=.no) Tryz.func173 (fun _ _=>by kernel_rfl) rfl fun v vals x z ha hz=>(qsign_i x).trans (Z3x hz)
end Go.Eng
set_option maxRecDepth 100000
set_option maxHeartbeats 4000000
namespace Go.Eng
open Go.Proofs Go.RowKit
def Zji:FuncId×Con:=(216,⟨[.leaf 3,.leaf 3],[.int .i64],fun p=>Zxi p.1 p.2⟩)
theorem qcmp_i (x:Rat) (y:Rat):Zl ⟨Tryz.prog,[(38,0),(40,2),(42,3)],[Zse,Zuf],[],[],[],[],[]⟩ [] Tryz.f216 .no [.leaf 3,.leaf 3] [.int .i64] (x,y)=ZRp x y:=by kernel_rfl
theorem Z0t:Zk Tryz.prog Zji.1 Zji.2:=Zm (C:=⟨Tryz.prog,[(38,0),(40,2),(42,3)],[Zse,Zuf],[],[],[],[],[]⟩) ⟨Zkn,ZHo,trivial⟩ trivial trivial trivial (inl:=[]) trivial (ann:=.no) Tryz.func216 (fun _ _=>by kernel_rfl) rfl fun v vals x z ha hz=>(qcmp_i x.1 x.2).trans (ZSz hz)
end Go.Eng
set_option maxRecDepth 100000
set_option maxHeartbeats 4000000
namespace Go.Eng
open Go.Proofs Go.RowKit
def ZQk:FuncId×Con:=(84,⟨[.pair (.slice (.slice (.leaf 3))) (.pair (.slice (.leaf 3)) (.slice (.leaf 3)))],[.pair (.int .i64) (.pair (.leaf 3) (.pair (.slice (.leaf 3)) (.pair (.slice (.leaf 3)) (.slice (.leaf 3)))))],fun p=>ZAp p⟩)
theorem Zwz (p : (List (List Rat)) × (List Rat) × (List Rat)) : Zl ⟨Tryz.prog, [(38, 0), (40, 2), (42, 3), (47, 1), (49, 4)], [Zwc, ZBm, ZVl, Z1c, Zse, Z1d, Zji, Zqi, Zce, ZWc, Zuf], [], [Z3d, ZTc], [], [((42, "Add"), 215), ((42, "Cmp"), 216), ((42, "Div"), 218), ((42, "Mul"), 219), ((42, "Neg"), 221), ((42, "Sign"), 173), ((42, "Sub"), 224), ((42, "Zero"), 172)], [Zfl]⟩ [(114, Tryz.f114, .two .no (.two .no (.two (.two .no (.two (.cut ⟨⟨[1, 3, 20], [.fld (.sl 3) 0, .fld (.sl 3) 1, .fld (.sl 3) 2], [.s 21 (.dat (.int .i64)), .l (.sl 3) (.box 173 (.agg (.cons (.mat 30 42 (.leaf 3)) (.cons (.own 42 (.leaf 3)) (.cons (.own 42 (.leaf 3)) (.cons (.dat (.leaf 3)) (.cons (.own 3 (.int .i64)) (.one (.own 3 (.int .i64))))))))))]⟩, [(.exit 0, ⟨[1, 3], [.fld (.sl 3) 0, .fld (.sl 3) 1, .fld (.sl 3) 2], [.l (.sl 3) (.box 173 (.agg (.cons (.mat 30 42 (.leaf 3)) (.cons (.own 42 (.leaf 3)) (.cons (.own 42 (.leaf 3)) (.cons (.dat (.leaf 3)) (.cons (.own 3 (.int .i64)) (.one (.own 3 (.int .i64))))))))))]⟩)]⟩ .no) .no)) (.two (.two .no (.two (.cut ⟨⟨[1, 3, 37], [.fld (.sl 3) 0, .fld (.sl 3) 1, .fld (.sl 3) 2, .fld (.sl 3) 6, .fld (.sl 3) 7], [.s 38 (.dat (.int .i64)), .l (.sl 3) (.box 173 (.agg (.cons (.mat 30 42 (.leaf 3)) (.cons (.own 42 (.leaf 3)) (.cons (.own 42 (.leaf 3)) (.cons (.dat (.leaf 3)) (.cons (.own 3 (.int .i64)) (.one (.own 3 (.int .i64))))))))))]⟩, [(.exit 2, ⟨[3], [.fld (.sl 3) 0, .fld (.sl 3) 1, .fld (.sl 3) 2, .fld (.sl 3) 6, .fld (.sl 3) 7], [.l (.sl 3) (.box 173 (.agg (.cons (.mat 30 42 (.leaf 3)) (.cons (.own 42 (.leaf 3)) (.cons (.own 42 (.leaf 3)) (.cons (.dat (.leaf 3)) (.cons (.own 3 (.int .i64)) (.one (.own 3 (.int .i64))))))))))]⟩)]⟩ .no) .no)) .no)))), (115, Tryz.f115, .two .no (.two .no (.two .no (.two (.two .no (.two (.cut ⟨⟨[0, 3, 6, 7, 8, 34, 35], [], [.s 9 (.dat (.int .i64)), .s 36 (.dat (.int .i64))]⟩, [(.exit 0, ⟨[0, 3, 6, 7, 8], [], [.s 9 (.dat (.int .i64))]⟩)]⟩ (.two (.two .no (.two .no (.two (.two (.two .no (.two (.cut ⟨⟨[], [], []⟩, [(.norm, ⟨[0, 3, 6, 7, 8, 9, 10, 34, 35, 36], [], [.s 61 (.dat .bool)]⟩)]⟩ .no) (.cut ⟨⟨[], [], []⟩, [(.norm, ⟨[0, 3, 6, 7, 8, 34, 35, 36], [], [.s 9 (.dat (.int .i64))]⟩)]⟩ .no))) .no) .no))) .no)) .no)) (.two .no (.two (.two .no (.two (.unroll 0 .no) .no)) .no)))))), (116, Tryz.f116, .two .no (.two (.cut ⟨⟨[0, 1], [.fld (.sl 0) 0, .fld (.sl 0) 1, .fld (.sl 0) 2, .fld (.sl 0) 6, .fld (.sl 0) 7], [.l (.sl 0) (.box 173 (.agg (.cons (.mat 30 42 (.leaf 3)) (.cons (.own 42 (.leaf 3)) (.cons (.own 42 (.leaf 3)) (.cons (.dat (.leaf 3)) (.cons (.own 3 (.int .i64)) (.one (.own 3 (.int .i64))))))))))]⟩, [(.ret, ⟨[], [.fld (.sl 0) 0, .fld (.sl 0) 1, .fld (.sl 0) 2, .fld (.sl 0) 6, .fld (.sl 0) 7], [.s 1000 (.dat (.int .i64)), .l (.sl 0) (.box 173 (.agg (.cons (.mat 30 42 (.leaf 3)) (.cons (.own 42 (.leaf 3)) (.cons (.own 42 (.leaf 3)) (.cons (.dat (.leaf 3)) (.cons (.own 3 (.int .i64)) (.one (.own 3 (.int .i64))))))))))]⟩)]⟩ .no) .no)), (143, Tryz.f143, .two .no (.two .no (.two (.two .no (.two (.cut ⟨⟨[0, 1, 2, 7, 37], [], [.s 38 (.dat (.int .i64)), .l (.sl 20) (.mat 30 42 (.leaf 3))]⟩, [(.exit 0, ⟨[0, 1, 2, 7], [], [.l (.sl 20) (.mat 30 42 (.leaf 3))]⟩)]⟩ .no) .no)) (.two .no (.two .no (.two (.two .no (.two (.cut ⟨⟨[0, 1, 2, 94], [], [.s 95 (.dat (.int .i64)), .l (.sl 67) (.mat 30 42 (.leaf 3)), .l (.sl 77) (.own 42 (.leaf 3))]⟩, [(.exit 2, ⟨[0, 1, 2], [], [.l (.sl 67) (.mat 30 42 (.leaf 3)), .l (.sl 77) (.own 42 (.leaf 3))]⟩)]⟩ (.two (.two .no (.two .no (.two (.cut ⟨⟨[], [], []⟩, [(.norm, ⟨[0, 1, 2, 94, 95], [], [.l (.fld (.sl 0) 0) (.mat 30 42 (.leaf 3)), .l (.fld (.sl 0) 1) (.own 42 (.leaf 3))]⟩)]⟩ (.two (.two .no (.two (.two (.cut ⟨⟨[], [], []⟩, [(.norm, ⟨[0, 1, 2, 10, 94, 95], [], [.s 114 (.dat .bool)]⟩)]⟩ .no) .no) .no)) .no)) .no))) .no)) .no)) .no)))))), (148, Tryz.f148, .two .no (.two .no (.two (.two .no (.two (.cut ⟨⟨[0, 9, 10], [], [.s 3 (.dat (.int .i64)), .s 11 (.dat (.int .i64))]⟩, [(.exit 0, ⟨[], [], [.s 3 (.dat (.int .i64))]⟩)]⟩ (.two (.two .no (.two .no (.two (.two (.two .no (.two (.cut ⟨⟨[], [], []⟩, [(.norm, ⟨[0, 3, 4, 9, 10, 11], [], [.s 40 (.dat .bool)]⟩)]⟩ .no) (.cut ⟨⟨[], [], []⟩, [(.norm, ⟨[0, 9, 10, 11], [], [.s 3 (.dat (.int .i64))]⟩)]⟩ .no))) .no) .no))) .no)) .no)) .no))), (149, Tryz.f149, .two .no (.two .no (.two .no (.two (.two .no (.two (.cut ⟨⟨[0, 1, 2, 8, 17], [], [.s 7 (.dat (.int .i64)), .s 18 (.dat (.int .i64)), .l (.sl 8) (.box 42 (.dat (.leaf 3)))]⟩, [(.exit 0, ⟨[], [], [.s 7 (.dat (.int .i64))]⟩)]⟩ (.two (.two .no (.two .no (.two (.cut ⟨⟨[], [], []⟩, [(.norm, ⟨[0, 1, 2, 8, 17, 18], [], [.s 7 (.dat (.int .i64)), .l (.sl 8) (.box 42 (.dat (.leaf 3)))]⟩)]⟩ (.two (.two .no (.two .no (.two .no (.two .no (.two (.two .no (.cut ⟨⟨[], [], []⟩, [(.norm, ⟨[0, 1, 2, 7, 8, 9, 10, 17, 18], [], [.s 12 (.dat (.int .i64))]⟩)]⟩ .no)) (.two (.cut ⟨⟨[], [], []⟩, [(.norm, ⟨[0, 1, 2, 7, 8, 9, 10, 17, 18], [], [.s 110 (.dat .bool)]⟩)]⟩ .no) (.cut ⟨⟨[], [], []⟩, [(.norm, ⟨[0, 1, 2, 8, 17, 18], [], [.s 7 (.dat (.int .i64)), .l (.sl 8) (.box 42 (.dat (.leaf 3)))]⟩)]⟩ .no))))))) .no)) .no))) .no)) .no)) .no)))), (176, Tryz.f176, .sel 1 (.two .no (.two (.two .no (.two (.cut ⟨⟨[0, 1, 2, 3, 8, 15], [], [.s 16 (.dat (.int .i64)), .l (.fld (.sl 0) 0) (.agg (.mat 30 42 (.leaf 3)))]⟩, [(.exit 0, ⟨[0, 1, 2, 3, 8], [], [.l (.fld (.sl 0) 0) (.agg (.mat 30 42 (.leaf 3)))]⟩)]⟩ .no) .no)) .no)) (.two .no (.two (.two .no (.two (.cut ⟨⟨[0, 1, 2, 3, 8, 15], [], [.s 16 (.dat (.int .i64)), .l (.sl 1) (.own 42 (.leaf 3))]⟩, [(.exit 0, ⟨[0, 1, 2, 3, 8], [], [.l (.sl 1) (.own 42 (.leaf 3))]⟩)]⟩ .no) .no)) .no)))] Tryz.f84 (.two .no (.two .no (.two .no (.two .no (.two .no (.two (.cut ⟨⟨[], [], []⟩, [(.norm, ⟨[2, 3, 4, 6], [], [.s 5 (.dat (.ptr (.pair (.slice (.slice (.leaf 3))) (.pair (.slice (.leaf 3)) (.pair (.slice (.leaf 3)) (.pair (.leaf 3) (.pair (.slice (.int .i64)) (.slice (.int .i64))))))))), .s 9 (.dat (.int .i64))]⟩)]⟩ .no) (.two .no (.two .no (.two (.two .no (.two .no (.cut ⟨⟨[], [], []⟩, [(.norm, ⟨[2, 3, 5, 6, 9, 10], [], [.l (.sl 10) (.own 42 (.leaf 3))]⟩)]⟩ .no))) (.two (.two .no (.two (.unroll 0 .no) .no)) .no)))))))))) [.pair (.slice (.slice (.leaf 3))) (.pair (.slice (.leaf 3)) (.slice (.leaf 3)))] [.pair (.int .i64) (.pair (.leaf 3) (.pair (.slice (.leaf 3)) (.pair (.slice (.leaf 3)) (.slice (.leaf 3)))))] (p) = ZAp p := by kernel_rfl
theorem Z7x : Zk Tryz.prog ZQk.1 ZQk.2 := Zm (C := ⟨Tryz.prog, [(38, 0), (40, 2), (42, 3), (47, 1), (49, 4)], [Zwc, ZBm, ZVl, Z1c, Zse, Z1d, Zji, Zqi, Zce, ZWc, Zuf], [], [Z3d, ZTc], [], [((42, "Add"), 215), ((42, "Cmp"), 216), ((42, "Div"), 218), ((42, "Mul"), 219), ((42, "Neg"), 221), ((42, "Sign"), 173), ((42, "Sub"), 224), ((42, "Zero"), 172)], [Zfl]⟩) ⟨Zli, Zjv, ZAw, Z9i, Zkn, ZCk, Z0t, ZWq, Z1m, ZXi, ZHo, trivial⟩ ⟨Zxk, Zqj, trivial⟩ trivial ⟨ZVo, ZJs, ZRr, Zwk, ZZk, Zuo, Zks, Zwn, trivial⟩ (inl := [(114, Tryz.f114, .two .no (.two .no (.two (.two .no (.two (.cut ⟨⟨[1, 3, 20], [.fld (.sl 3) 0, .fld (.sl 3) 1, .fld (.sl 3) 2], [.s 21 (.dat (.int .i64)), .l (.sl 3) (.box 173 (.agg (.cons (.mat 30 42 (.leaf 3)) (.cons (.own 42 (.leaf 3)) (.cons (.own 42 (.leaf 3)) (.cons (.dat (.leaf 3)) (.cons (.own 3 (.int .i64)) (.one (.own 3 (.int .i64))))))))))]⟩, [(.exit 0, ⟨[1, 3], [.fld (.sl 3) 0, .fld (.sl 3) 1, .fld (.sl 3) 2], [.l (.sl 3) (.box 173 (.agg (.cons (.mat 30 42 (.leaf 3)) (.cons (.own 42 (.leaf 3)) (.cons (.own 42 (.leaf 3)) (.cons (.dat (.leaf 3)) (.cons (.own 3 (.int .i64)) (.one (.own 3 (.int .i64))))))))))]⟩)]⟩ .no) .no)) (.two (.two .no (.two (.cut ⟨⟨[1, 3, 37], [.fld (.sl 3) 0, .fld (.sl 3) 1, .fld (.sl 3) 2, .fld (.sl 3) 6, .fld (.sl 3) 7], [.s 38 (.dat (.int .i64)), .l (.sl 3) (.box 173 (.agg (.cons (.mat 30 42 (.leaf 3)) (.cons (.own 42 (.leaf 3)) (.cons (.own 42 (.leaf 3)) (.cons (.dat (.leaf 3)) (.cons (.own 3 (.int .i64)) (.one (.own 3 (.int .i64))))))))))]⟩, [(.exit 2, ⟨[3], [.fld (.sl 3) 0, .fld (.sl 3) 1, .fld (.sl 3) 2, .fld (.sl 3) 6, .fld (.sl 3) 7], [.l (.sl 3) (.box 173 (.agg (.cons (.mat 30 42 (.leaf 3)) (.cons (.own 42 (.leaf 3)) (.cons (.own 42 (.leaf 3)) (.cons (.dat (.leaf 3)) (.cons (.own 3 (.int .i64)) (.one (.own 3 (.int .i64))))))))))]⟩)]⟩ .no) .no)) .no)))), (115, Tryz.f115, .two .no (.two .no (.two .no (.two (.two .no (.two (.cut ⟨⟨[0, 3, 6, 7, 8, 34, 35], [], [.s 9 (.dat (.int .i64)), .s 36 (.dat (.int .i64))]⟩, [(.exit 0, ⟨[0, 3, 6, 7, 8], [], [.s 9 (.dat (.int .i64))]⟩)]⟩ (.two (.two .no (.two .no (.two (.two (.two .no (.two (.cut ⟨⟨[], [], []⟩, [(.norm, ⟨[0, 3, 6, 7, 8, 9, 10, 34, 35, 36], [], [.s 61 (.dat .bool)]⟩)]⟩ .no) (.cut ⟨⟨[], [], []⟩, [(.norm, ⟨[0, 3, 6, 7, 8, 34, 35, 36], [], [.s 9 (.dat (.int .i64))]⟩)]⟩ .no))) .no) .no))) .no)) .no)) (.two .no (.two (.two .no (.two (.unroll 0 .no) .no)) .no)))))), (116, Tryz.f116, .two .no (.two (.cut ⟨⟨[0, 1], [.fld (.sl 0) 0, .fld (.sl 0) 1, .fld (.sl 0) 2, .fld (.sl 0) 6, .fld (.sl 0) 7], [.l (.sl 0) (.box 173 (.agg (.cons (.mat 30 42 (.leaf 3)) (.cons (.own 42 (.leaf 3)) (.cons (.own 42 (.leaf 3)) (.cons (.dat (.leaf 3)) (.cons (.own 3 (.int .i64)) (.one (.own 3 (.int .i64))))))))))]⟩, [(.ret, ⟨[], [.fld (.sl 0) 0, .fld (.sl 0) 1, .fld (.sl 0) 2, .fld (.sl 0) 6, .fld (.sl 0) 7], [.s 1000 (.dat (.int .i64)), .l (.sl 0) (.box 173 (.agg (.cons (.mat 30 42 (.leaf 3)) (.cons (.own 42 (.leaf 3)) (.cons (.own 42 (.leaf 3)) (.cons (.dat (.leaf 3)) (.cons (.own 3 (.int .i64)) (.one (.own 3 (.int .i64))))))))))]⟩)]⟩ .no) .no)), (143, Tryz.f143, .two .no (.two .no (.two (.two .no (.two (.cut ⟨⟨[0, 1, 2, 7, 37], [], [.s 38 (.dat (.int .i64)), .l (.sl 20) (.mat 30 42 (.leaf 3))]⟩, [(.exit 0, ⟨[0, 1, 2, 7], [], [.l (.sl 20) (.mat 30 42 (.leaf 3))]⟩)]⟩ .no) .no)) (.two .no (.two .no (.two (.two .no (.two (.cut ⟨⟨[0, 1, 2, 94], [], [.s 95 (.dat (.int .i64)), .l (.sl 67) (.mat 30 42 (.leaf 3)), .l (.sl 77) (.own 42 (.leaf 3))]⟩, [(.exit 2, ⟨[0, 1, 2], [], [.l (.sl 67) (.mat 30 42 (.leaf 3)), .l (.sl 77) (.own 42 (.leaf 3))]⟩)]⟩ (.two (.two .no (.two .no (.two (.cut ⟨⟨[], [], []⟩, [(.norm, ⟨[0, 1, 2, 94, 95], [], [.l (.fld (.sl 0) 0) (.mat 30 42 (.leaf 3)), .l (.fld (.sl 0) 1) (.own 42 (.leaf 3))]⟩)]⟩ (.two (.two .no (.two (.two (.cut ⟨⟨[], [], []⟩, [(.norm, ⟨[0, 1, 2, 10, 94, 95], [], [.s 114 (.dat .bool)]⟩)]⟩ .no) .no) .no)) .no)) .no))) .no)) .no)) .no)))))), (148, Tryz.f148, .two .no (.two .no (.two (.two .no (.two (.cut ⟨⟨[0, 9, 10], [], [.s 3 (.dat (.int .i64)), .s 11 (.dat (.int .i64))]⟩, [(.exit 0, ⟨[], [], [.s 3 (.dat (.int .i64))]⟩)]⟩ (.two (.two .no (.two .no (.two (.two (.two .no (.two (.cut ⟨⟨[], [], []⟩, [(.norm, ⟨[0, 3, 4, 9, 10, 11], [], [.s 40 (.dat .bool)]⟩)]⟩ .no) (.cut ⟨⟨[], [], []⟩, [(.norm, ⟨[0, 9, 10, 11], [], [.s 3 (.dat (.int .i64))]⟩)]⟩ .no))) .no) .no))) .no)) .no)) .no))), (149, Tryz.f149, .two .no (.two .no (.two .no (.two (.two .no (.two (.cut ⟨⟨[0, 1, 2, 8, 17], [], [.s 7 (.dat (.int .i64)), .s 18 (.dat (.int .i64)), .l (.sl 8) (.box 42 (.dat (.leaf 3)))]⟩, [(.exit 0, ⟨[], [], [.s 7 (.dat (.int .i64))]⟩)]⟩ (.two (.two .no (.two .no (.two (.cut ⟨⟨[], [], []⟩, [(.norm, ⟨[0, 1, 2, 8, 17, 18], [], [.s 7 (.dat (.int .i64)), .l (.sl 8) (.box 42 (.dat (.leaf 3)))]⟩)]⟩ (.two (.two .no (.two .no (.two .no (.two .no (.two (.two .no (.cut ⟨⟨[], [], []⟩, [(.norm, ⟨[0, 1, 2, 7, 8, 9, 10, 17, 18], [], [.s 12 (.dat (.int .i64))]⟩)]⟩ .no)) (.two (.cut ⟨⟨[], [], []⟩, [(.norm, ⟨[0, 1, 2, 7, 8, 9, 10, 17, 18], [], [.s 110 (.dat .bool)]⟩)]⟩ .no) (.cut ⟨⟨[], [], []⟩, [(.norm, ⟨[0, 1, 2, 8, 17, 18], [], [.s 7 (.dat (.int .i64)), .l (.sl 8) (.box 42 (.dat (.leaf 3)))]⟩)]⟩ .no))))))) .no)) .no))) .no)) .no)) .no)))), (176, Tryz.f176, .sel 1 (.two .no (.two (.two .no (.two (.cut ⟨⟨[0, 1, 2, 3, 8, 15], [], [.s 16 (.dat (.int .i64)), .l (.fld (.sl 0) 0) (.agg (.mat 30 42 (.leaf 3)))]⟩, [(.exit 0, ⟨[0, 1, 2, 3, 8], [], [.l (.fld (.sl 0) 0) (.agg (.mat 30 42 (.leaf 3)))]⟩)]⟩ .no) .no)) .no)) (.two .no (.two (.two .no (.two (.cut ⟨⟨[0, 1, 2, 3, 8, 15], [], [.s 16 (.dat (.int .i64)), .l (.sl 1) (.own 42 (.leaf 3))]⟩, [(.exit 0, ⟨[0, 1, 2, 3, 8], [], [.l (.sl 1) (.own 42 (.leaf 3))]⟩)]⟩ .no) .no)) .no)))]) ⟨⟨Tryz.func114, fun _ _ => by kernel_rfl⟩, ⟨Tryz.func115, fun _ _ => by kernel_rfl⟩, ⟨Tryz.func116, fun _ _ => by kernel_rfl⟩, ⟨Tryz.func143, fun _ _ => by kernel_rfl⟩, ⟨Tryz.func148, fun _ _ => by kernel_rfl⟩, ⟨Tryz.func149, fun _ _ => by kernel_rfl⟩, ⟨Tryz.func176, fun _ _ => by kernel_rfl⟩, trivial⟩ (ann := (.two .no (.two .no (.two .no (.two .no (.two .no (.two (.cut ⟨⟨[], [], []⟩, [(.norm, ⟨[2, 3, 4, 6], [], [.s 5 (.dat (.ptr (.pair (.slice (.slice (.leaf 3))) (.pair (.slice (.leaf 3)) (.pair (.slice (.leaf 3)) (.pair (.leaf 3) (.pair (.slice (.int .i64)) (.slice (.int .i64))))))))), .s 9 (.dat (.int .i64))]⟩)]⟩ .no) (.two .no (.two .no (.two (.two .no (.two .no (.cut ⟨⟨[], [], []⟩, [(.norm, ⟨[2, 3, 5, 6, 9, 10], [], [.l (.sl 10) (.own 42 (.leaf 3))]⟩)]⟩ .no))) (.two (.two .no (.two (.unroll 0 .no) .no)) .no))))))))))) Tryz.func84 (fun _ _ => by kernel_rfl) rfl (fun v vals x z ha hz => (Zwz x).trans hz) (hq := ⟨Zsw, trivial⟩)
end Go.Eng
set_option maxRecDepth 100000
set_option maxHeartbeats 4000000
namespace Go.Eng
open Go.Proofs Go.RowKit
def Zhn:FuncId×Con:=(37,⟨[.pair (.slice (.slice (.leaf 3))) (.pair (.slice (.leaf 3)) (.slice (.leaf 3)))],[.pair (.int .i64) (.pair (.leaf 3) (.pair (.slice (.leaf 3)) (.pair (.slice (.leaf 3)) (.slice (.leaf 3))))),.int .i64],fun p=>Zbq p⟩)
theorem Zfu (p:(List (List Rat))×(List Rat)×(List Rat)):Zl ⟨Tryz.prog,[(38,0),(40,2),(42,3),(47,1),(49,4)],[Z3h,ZQk],[],[],[],[],[]⟩ [] Tryz.f37 .no [.pair (.slice (.slice (.leaf 3))) (.pair (.slice (.leaf 3)) (.slice (.leaf 3)))] [.pair (.int .i64) (.pair (.leaf 3) (.pair (.slice (.leaf 3)) (.pair (.slice (.leaf 3)) (.slice (.leaf 3))))),.int .i64] (p)=Zbq p:=by kernel_rfl
theorem ZDy:Zk Tryz.prog Zhn.1 Zhn.2:=Zm (C:=⟨Tryz.prog,[(38,0),(40,2),(42,3),(47,1),(49,4)],[Z3h,ZQk],[],[],[],[],[]⟩) ⟨Zpt,Z7x,trivial⟩ trivial trivial trivial (inl:=[]) trivial (ann:=.no) Tryz.func37 (fun _ _=>by kernel_rfl) rfl (fun v vals x z ha hz=>(Zfu x).trans hz)
end Go.Eng
set_option maxRecDepth 100000
set_option maxHeartbeats 4000000
namespace Go.Eng
open Go.Proofs Go.RowKit
def Zid:FuncId×Con:=(45,⟨[.slice (.leaf 3),.slice (.leaf 3)],[.leaf 3],fun p=>Zvc p.1 p.2⟩)
theorem ldot_i (x : List Rat) (y : List Rat) : Zl ⟨Tryz.prog, [(38, 0), (40, 2), (42, 3), (47, 1), (49, 4)], [Zwc, Z1d, Zce], [], [], [], [((42, "Add"), 215), ((42, "Mul"), 219)], []⟩ [] Tryz.f45 (.two .no (.two .no (.two (.two .no (.two (.cut ⟨⟨[0, 1, 4, 5, 9], [], [.s 10 (.dat (.int .i64)), .l (.sl 5) (.box 42 (.dat (.leaf 3)))]⟩, [(.exit 0, ⟨[4, 5], [], [.l (.sl 5) (.box 42 (.dat (.leaf 3)))]⟩)]⟩ .no) .no)) .no))) [.slice (.leaf 3), .slice (.leaf 3)] [.leaf 3] (x, y) = Zvc x y := by kernel_rfl
theorem Z7i : Zk Tryz.prog Zid.1 Zid.2 := Zm (C := ⟨Tryz.prog, [(38, 0), (40, 2), (42, 3), (47, 1), (49, 4)], [Zwc, Z1d, Zce], [], [], [], [((42, "Add"), 215), ((42, "Mul"), 219)], []⟩) ⟨Zli, ZCk, Z1m, trivial⟩ trivial trivial ⟨ZVo, Zwk, trivial⟩ (inl := []) trivial (ann := (.two .no (.two .no (.two (.two .no (.two (.cut ⟨⟨[0, 1, 4, 5, 9], [], [.s 10 (.dat (.int .i64)), .l (.sl 5) (.box 42 (.dat (.leaf 3)))]⟩, [(.exit 0, ⟨[4, 5], [], [.l (.sl 5) (.box 42 (.dat (.leaf 3)))]⟩)]⟩ .no) .no)) .no)))) Tryz.func45 (fun _ _ => by kernel_rfl) rfl (fun v vals x z ha hz => (ldot_i x.1 x.2).trans hz)
end Go.Eng
set_option maxRecDepth 100000
set_option maxHeartbeats 4000000
namespace Go.Eng
open Go.Proofs Go.RowKit
def Z4f:FuncId×Con:=(76,⟨[.slice (.slice (.leaf 3)),.slice (.leaf 3)],[.slice (.leaf 3)],fun p=>ZCg p.1 p.2⟩)
theorem Z9x (m:List (List Rat)) (x:List Rat):Zl ⟨Tryz.prog,[(38,0),(40,2),(42,3),(47,1),(49,4)],[Zid],[],[],[],[],[]⟩ [] Tryz.f76 (.two .no (.two .no (.two (.two .no (.two (.cut ⟨⟨[1,8,9],[],[.s 5 (.own 42 (.leaf 3)),.s 10 (.dat (.int .i64))]⟩,[(.exit 0,⟨[],[],[.s 5 (.own 42 (.leaf 3))]⟩)]⟩ .no) .no)) .no))) [.slice (.slice (.leaf 3)),.slice (.leaf 3)] [.slice (.leaf 3)] (m,x)=ZCg m x:=by kernel_rfl
theorem Zqo:Zk Tryz.prog Z4f.1 Z4f.2:=Zm (C:=⟨Tryz.prog,[(38,0),(40,2),(42,3),(47,1),(49,4)],[Zid],[],[],[],[],[]⟩) ⟨Z7i,trivial⟩ trivial trivial trivial (inl:=[]) trivial (ann:=(.two .no (.two .no (.two (.two .no (.two (.cut ⟨⟨[1,8,9],[],[.s 5 (.own 42 (.leaf 3)),.s 10 (.dat (.int .i64))]⟩,[(.exit 0,⟨[],[],[.s 5 (.own 42 (.leaf 3))]⟩)]⟩ .no) .no)) .no)))) Tryz.func76 (fun _ _=>by kernel_rfl) rfl (fun v vals x z ha hz=>(Z9x x.1 x.2).trans hz)
end Go.Eng
set_option maxRecDepth 100000
set_option maxHeartbeats 4000000
namespace Go.Eng
open Go.Proofs Go.RowKit
def ZWf:FuncId×Con:=(88,⟨[.slice (.leaf 3)],[.bool],fun p=>Zkg p⟩)
theorem lnone_i (x : List Rat) : Zl ⟨Tryz.prog, [(38, 0), (40, 2), (42, 3), (47, 1), (49, 4)], [Zse], [], [], [], [((42, "Sign"), 173)], []⟩ [(124, Tryz.f124, .no), (125, Tryz.f125, .no), (144, Tryz.f144, .cut ⟨⟨[], [], []⟩, [(.ret, ⟨[], [], [.s 1000 (.dat (.int .i64))]⟩)]⟩ (.two .no (.two (.two .no (.two (.cut ⟨⟨[0, 1, 7], [], [.s 8 (.dat (.int .i64))]⟩, [(.exit 0, ⟨[], [], []⟩), (.ret, ⟨[], [], [.s 1000 (.dat (.int .i64))]⟩)]⟩ .no) .no)) .no)))] Tryz.f88 .no [.slice (.leaf 3)] [.bool] (x) = Zkg x := by kernel_rfl
theorem ZOp : Zk Tryz.prog ZWf.1 ZWf.2 := Zm (C := ⟨Tryz.prog, [(38, 0), (40, 2), (42, 3), (47, 1), (49, 4)], [Zse], [], [], [], [((42, "Sign"), 173)], []⟩) ⟨Zkn, trivial⟩ trivial trivial ⟨Zuo, trivial⟩ (inl := [(124, Tryz.f124, .no), (125, Tryz.f125, .no), (144, Tryz.f144, .cut ⟨⟨[], [], []⟩, [(.ret, ⟨[], [], [.s 1000 (.dat (.int .i64))]⟩)]⟩ (.two .no (.two (.two .no (.two (.cut ⟨⟨[0, 1, 7], [], [.s 8 (.dat (.int .i64))]⟩, [(.exit 0, ⟨[], [], []⟩), (.ret, ⟨[], [], [.s 1000 (.dat (.int .i64))]⟩)]⟩ .no) .no)) .no)))]) ⟨⟨Tryz.func124, fun _ _ => by kernel_rfl⟩, ⟨Tryz.func125, fun _ _ => by kernel_rfl⟩, ⟨Tryz.func144, fun _ _ => by kernel_rfl⟩, trivial⟩ (ann := .no) Tryz.func88 (fun _ _ => by kernel_rfl) rfl (fun v vals x z ha hz => (lnone_i x).trans hz)
end Go.Eng
set_option maxRecDepth 100000
set_option maxHeartbeats 4000000
namespace Go.Eng
open Go.Proofs Go.RowKit
def ZRf:FuncId×Con:=(90,⟨[.slice (.leaf 3),.slice (.leaf 3)],[.bool],fun p=>ZLj p.1 p.2⟩)
theorem Zkw (x : List Rat) (y : List Rat) : Zl ⟨Tryz.prog, [(38, 0), (40, 2), (42, 3), (47, 1), (49, 4)], [Zji], [], [], [], [((42, "Cmp"), 216)], []⟩ [] Tryz.f90 (.two .no (.two (.two .no (.two (.cut ⟨⟨[0, 1, 7], [], [.s 8 (.dat (.int .i64))]⟩, [(.exit 0, ⟨[], [], []⟩), (.ret, ⟨[], [], [.s 1000 (.dat .bool)]⟩)]⟩ .no) .no)) .no)) [.slice (.leaf 3), .slice (.leaf 3)] [.bool] (x, y) = ZLj x y := by kernel_rfl
theorem ZDp : Zk Tryz.prog ZRf.1 ZRf.2 := Zm (C := ⟨Tryz.prog, [(38, 0), (40, 2), (42, 3), (47, 1), (49, 4)], [Zji], [], [], [], [((42, "Cmp"), 216)], []⟩) ⟨Z0t, trivial⟩ trivial trivial ⟨ZJs, trivial⟩ (inl := []) trivial (ann := (.two .no (.two (.two .no (.two (.cut ⟨⟨[0, 1, 7], [], [.s 8 (.dat (.int .i64))]⟩, [(.exit 0, ⟨[], [], []⟩), (.ret, ⟨[], [], [.s 1000 (.dat .bool)]⟩)]⟩ .no) .no)) .no))) Tryz.func90 (fun _ _ => by kernel_rfl) rfl (fun v vals x z ha hz => (Zkw x.1 x.2).trans hz)
end Go.Eng
set_option maxRecDepth 100000
set_option maxHeartbeats 4000000
namespace Go.Eng
open Go.Proofs Go.RowKit
def Zem:FuncId×Con:=(86,⟨[.pair (.slice (.slice (.leaf 3))) (.pair (.slice (.leaf 3)) (.slice (.leaf 3))),.slice (.leaf 3)],[.bool],fun p=>Zpo p.1 p.2⟩)
theorem ZTy (p:(List (List Rat))×(List Rat)×(List Rat)) (x:List Rat):Zl ⟨Tryz.prog,[(38,0),(40,2),(42,3),(47,1),(49,4)],[Z4f,ZWf,ZRf],[],[],[],[],[]⟩ [] Tryz.f86 (.two .no (.two (.cut ⟨⟨[],[],[]⟩,[(.norm,⟨[],[],[.s 4 (.dat .bool)]⟩)]⟩ .no) .no)) [.pair (.slice (.slice (.leaf 3))) (.pair (.slice (.leaf 3)) (.slice (.leaf 3))),.slice (.leaf 3)] [.bool] (p,x)=Zpo p x:=by kernel_rfl
theorem Zjz:Zk Tryz.prog Zem.1 Zem.2:=Zm (C:=⟨Tryz.prog,[(38,0),(40,2),(42,3),(47,1),(49,4)],[Z4f,ZWf,ZRf],[],[],[],[],[]⟩) ⟨Zqo,ZOp,ZDp,trivial⟩ trivial trivial trivial (inl:=[]) trivial (ann:=(.two .no (.two (.cut ⟨⟨[],[],[]⟩,[(.norm,⟨[],[],[.s 4 (.dat .bool)]⟩)]⟩ .no) .no))) Tryz.func86 (fun _ _=>by kernel_rfl) rfl (fun v vals x z ha hz=>(ZTy x.1 x.2).trans hz)
end Go.Eng
set_option maxRecDepth 100000
set_option maxHeartbeats 4000000
namespace Go.Eng
open Go.Proofs Go.RowKit
def Zyh:FuncId×Con:=(89,⟨[.pair (.slice (.slice (.leaf 3))) (.pair (.slice (.leaf 3)) (.slice (.leaf 3))),.slice (.leaf 3)],[.slice (.leaf 3)],fun p=>ZGk p.1 p.2⟩)
theorem psums_i (p : (List (List Rat)) × (List Rat) × (List Rat)) (y : List Rat) : Zl ⟨Tryz.prog, [(38, 0), (40, 2), (42, 3), (47, 1), (49, 4)], [Z1d, Zce], [], [ZTc], [], [((42, "Add"), 215), ((42, "Mul"), 219)], []⟩ [] Tryz.f89 (.two .no (.two .no (.two (.two .no (.two (.cut ⟨⟨[1, 5, 15, 16], [], [.s 17 (.dat (.int .i64)), .l (.sl 5) (.own 42 (.leaf 3))]⟩, [(.exit 0, ⟨[5], [], [.l (.sl 5) (.own 42 (.leaf 3))]⟩)]⟩ (.two (.two .no (.two .no (.two (.two (.two .no (.two .no (.two (.cut ⟨⟨[1, 5, 6, 15, 16, 17, 22, 23], [], [.s 24 (.dat (.int .i64)), .l (.sl 5) (.own 42 (.leaf 3))]⟩, [(.exit 2, ⟨[1, 5, 15, 16, 17], [], [.l (.sl 5) (.own 42 (.leaf 3))]⟩)]⟩ .no) .no))) .no) .no))) .no)) .no)) .no))) [.pair (.slice (.slice (.leaf 3))) (.pair (.slice (.leaf 3)) (.slice (.leaf 3))), .slice (.leaf 3)] [.slice (.leaf 3)] (p, y) = ZGk p y := by kernel_rfl
theorem ZSr : Zk Tryz.prog Zyh.1 Zyh.2 := Zm (C := ⟨Tryz.prog, [(38, 0), (40, 2), (42, 3), (47, 1), (49, 4)], [Z1d, Zce], [], [ZTc], [], [((42, "Add"), 215), ((42, "Mul"), 219)], []⟩) ⟨ZCk, Z1m, trivial⟩ ⟨Zqj, trivial⟩ trivial ⟨ZVo, Zwk, trivial⟩ (inl := []) trivial (ann := (.two .no (.two .no (.two (.two .no (.two (.cut ⟨⟨[1, 5, 15, 16], [], [.s 17 (.dat (.int .i64)), .l (.sl 5) (.own 42 (.leaf 3))]⟩, [(.exit 0, ⟨[5], [], [.l (.sl 5) (.own 42 (.leaf 3))]⟩)]⟩ (.two (.two .no (.two .no (.two (.two (.two .no (.two .no (.two (.cut ⟨⟨[1, 5, 6, 15, 16, 17, 22, 23], [], [.s 24 (.dat (.int .i64)), .l (.sl 5) (.own 42 (.leaf 3))]⟩, [(.exit 2, ⟨[1, 5, 15, 16, 17], [], [.l (.sl 5) (.own 42 (.leaf 3))]⟩)]⟩ .no) .no))) .no) .no))) .no)) .no)) .no)))) Tryz.func89 (fun _ _ => by kernel_rfl) rfl (fun v vals x z ha hz => (psums_i x.1 x.2).trans hz)
end Go.Eng
set_option maxRecDepth 100000
set_option maxHeartbeats 4000000
namespace Go.Eng
open Go.Proofs Go.RowKit
def Zxl:FuncId×Con:=(87,⟨[.pair (.slice (.slice (.leaf 3))) (.pair (.slice (.leaf 3)) (.slice (.leaf 3))),.slice (.leaf 3)],[.bool],fun p=>Zfp p.1 p.2⟩)
theorem pdual_i (p:(List (List Rat))×(List Rat)×(List Rat)) (y:List Rat):Zl ⟨Tryz.prog,[(38,0),(40,2),(42,3),(47,1),(49,4)],[ZWf,Zyh,ZRf],[],[],[],[],[]⟩ [] Tryz.f87 (.two .no (.two (.cut ⟨⟨[],[],[]⟩,[(.norm,⟨[],[],[.s 4 (.dat .bool)]⟩)]⟩ .no) .no)) [.pair (.slice (.slice (.leaf 3))) (.pair (.slice (.leaf 3)) (.slice (.leaf 3))),.slice (.leaf 3)] [.bool] (p,y)=Zfp p y:=by kernel_rfl
theorem pdual_k:Zk Tryz.prog Zxl.1 Zxl.2:=Zm (C:=⟨Tryz.prog,[(38,0),(40,2),(42,3),(47,1),(49,4)],[ZWf,Zyh,ZRf],[],[],[],[],[]⟩) ⟨ZOp,ZSr,ZDp,trivial⟩ trivial trivial trivial (inl:=[]) trivial (ann:=(.two .no (.two (.cut ⟨⟨[],[],[]⟩,[(.norm,⟨[],[],[.s 4 (.dat .bool)]⟩)]⟩ .no) .no))) Tryz.func87 (fun _ _=>by kernel_rfl) rfl (fun v vals x z ha hz=>(pdual_i x.1 x.2).trans hz)
end Go.Eng
set_option maxRecDepth 100000
set_option maxHeartbeats 4000000
namespace Go.Eng
open Go.Proofs Go.RowKit
def ZWl:FuncId×Con:=(223,⟨[.leaf 3,.leaf 3],[.bool],fun p=>ZMi p.1 p.2⟩)
theorem qsame_i (x:Rat) (y:Rat):Zl ⟨Tryz.prog,[(38,0),(40,2),(42,3)],[ZJh],[],[],[],[],[]⟩ [] Tryz.f223 (.two .no (.two (.cut ⟨⟨[],[],[]⟩,[(.norm,⟨[],[],[.s 4 (.dat .bool)]⟩)]⟩ .no) .no)) [.leaf 3,.leaf 3] [.bool] (x,y)=Zjo x y:=by kernel_rfl
theorem qsame_k:Zk Tryz.prog ZWl.1 ZWl.2:=Zm (C:=⟨Tryz.prog,[(38,0),(40,2),(42,3)],[ZJh],[],[],[],[],[]⟩) ⟨cmp_k,trivial⟩ trivial trivial trivial (inl:=[]) trivial (ann:=.two .no (.two (.cut ⟨⟨[],[],[]⟩,[(.norm,⟨[],[],[.s 4 (.dat .bool)]⟩)]⟩ .no) .no)) Tryz.func223 (fun _ _=>by kernel_rfl) rfl fun v vals x z ha hz=>(qsame_i x.1 x.2).trans (Z8z hz)
end Go.Eng
set_option maxRecDepth 100000
set_option maxHeartbeats 4000000
namespace Go.Eng
open Go.Proofs Go.RowKit
def Zql:FuncId×Con:=(39,⟨[.pair (.slice (.slice (.leaf 3))) (.pair (.slice (.leaf 3)) (.slice (.leaf 3))),.pair (.int .i64) (.pair (.leaf 3) (.pair (.slice (.leaf 3)) (.pair (.slice (.leaf 3)) (.slice (.leaf 3)))))],[.bool],fun p=>Zbo p.1 p.2⟩)
theorem Zsx (p : (List (List Rat)) × (List Rat) × (List Rat)) (a : Int × Rat × (List Rat) × (List Rat) × (List Rat)) : Zl ⟨Tryz.prog, [(38, 0), (40, 2), (42, 3), (47, 1), (49, 4)], [Zid, Z4f, Z3h, Zem, Zxl, ZWf, Zyh, ZRf, Z1c, Zse, ZWl], [], [ZTc], [], [((42, "Same"), 223), ((42, "Sign"), 173), ((42, "Zero"), 172)], []⟩ [] Tryz.f39 (.two .no (.two .no (.two (.cut ⟨⟨[], [], []⟩, [(.norm, ⟨[2, 3], [], [.s 5 (.dat .bool)]⟩)]⟩ .no) (.two (.two .no (.two (.two .no (.two (.two (.cut ⟨⟨[], [], []⟩, [(.norm, ⟨[], [], [.s 4 (.dat .bool)]⟩)]⟩ .no) .no) (.two .no (.two (.two (.cut ⟨⟨[], [], []⟩, [(.norm, ⟨[], [], [.s 4 (.dat .bool)]⟩)]⟩ .no) .no) (.two .no (.two (.two (.two (.cut ⟨⟨[], [], []⟩, [(.norm, ⟨[2, 3], [], [.s 135 (.dat .bool)]⟩)]⟩ .no) .no) (.two (.cut ⟨⟨[], [], []⟩, [(.norm, ⟨[], [], [.s 4 (.dat .bool)]⟩)]⟩ .no) .no)) .no)))))) .no)) .no)))) [.pair (.slice (.slice (.leaf 3))) (.pair (.slice (.leaf 3)) (.slice (.leaf 3))), .pair (.int .i64) (.pair (.leaf 3) (.pair (.slice (.leaf 3)) (.pair (.slice (.leaf 3)) (.slice (.leaf 3)))))] [.bool] (p, a) = Zbo p a := by kernel_rfl
theorem Zay : Zk Tryz.prog Zql.1 Zql.2 := Zm (C := ⟨Tryz.prog, [(38, 0), (40, 2), (42, 3), (47, 1), (49, 4)], [Zid, Z4f, Z3h, Zem, Zxl, ZWf, Zyh, ZRf, Z1c, Zse, ZWl], [], [ZTc], [], [((42, "Same"), 223), ((42, "Sign"), 173), ((42, "Zero"), 172)], []⟩) ⟨Z7i, Zqo, Zpt, Zjz, pdual_k, ZOp, ZSr, ZDp, Z9i, Zkn, qsame_k, trivial⟩ ⟨Zqj, trivial⟩ trivial ⟨Z1u, Zuo, Zwn, trivial⟩ (inl := []) trivial (ann := (.two .no (.two .no (.two (.cut ⟨⟨[], [], []⟩, [(.norm, ⟨[2, 3], [], [.s 5 (.dat .bool)]⟩)]⟩ .no) (.two (.two .no (.two (.two .no (.two (.two (.cut ⟨⟨[], [], []⟩, [(.norm, ⟨[], [], [.s 4 (.dat .bool)]⟩)]⟩ .no) .no) (.two .no (.two (.two (.cut ⟨⟨[], [], []⟩, [(.norm, ⟨[], [], [.s 4 (.dat .bool)]⟩)]⟩ .no) .no) (.two .no (.two (.two (.two (.cut ⟨⟨[], [], []⟩, [(.norm, ⟨[2, 3], [], [.s 135 (.dat .bool)]⟩)]⟩ .no) .no) (.two (.cut ⟨⟨[], [], []⟩, [(.norm, ⟨[], [], [.s 4 (.dat .bool)]⟩)]⟩ .no) .no)) .no)))))) .no)) .no))))) Tryz.func39 (fun _ _ => by kernel_rfl) rfl (fun v vals x z ha hz => (Zsx x.1 x.2).trans hz)
end Go.Eng
set_option maxRecDepth 100000
set_option maxHeartbeats 4000000
namespace Go.Eng
open Go.Proofs Go.RowKit
def Zwl:FuncId×Con:=(7,⟨[],[.bool],fun _=>ZWg⟩)
theorem Zrw  : Zl ⟨Tryz.prog,[(38,0),(40,2),(42,3),(47,1),(49,4)],[ZDf,Zmm,Z2m,ZIh,ZJk,Zhn,ZBi,Zql],[],[],[],[],[]⟩ [] Tryz.f7 (.two .no (.two .no (.two .no (.two .no (.two .no (.two .no (.two .no (.two .no (.two (.cut ⟨⟨[],[],[]⟩,[(.norm,⟨[],[],[.s 0 (.dat .bool)]⟩)]⟩ .no) .no))))))))) [] [.bool] ()=ZWg  := by kernel_rfl
theorem Z5x:Zk Tryz.prog Zwl.1 Zwl.2:=Zm (C:=⟨Tryz.prog,[(38,0),(40,2),(42,3),(47,1),(49,4)],[ZDf,Zmm,Z2m,ZIh,ZJk,Zhn,ZBi,Zql],[],[],[],[],[]⟩) ⟨ZYp,ZMu,Zmx,Zmq,Zwy,ZDy,Zut,Zay,trivial⟩ trivial trivial trivial (inl:=[]) trivial (ann:=(.two .no (.two .no (.two .no (.two .no (.two .no (.two .no (.two .no (.two .no (.two (.cut ⟨⟨[],[],[]⟩,[(.norm,⟨[],[],[.s 0 (.dat .bool)]⟩)]⟩ .no) .no)))))))))) Tryz.func7 (fun _ _=>by kernel_rfl) rfl (fun v vals x z ha hz=>(Zrw ).trans hz)
end Go.Eng
set_option maxRecDepth 100000
set_option maxHeartbeats 4000000
namespace Go.Eng
open Go.Proofs Go.RowKit
def Zoi:FuncId×Con:=(10,⟨[.slice (.slice (.leaf 3)),.slice (.leaf 3)],[.bool,.slice (.leaf 3),.int .i64],fun p=>ZDc p.1 p.2⟩)
theorem Znu (m : List (List Rat)) (c : List Rat) : Zl ⟨Tryz.prog, [(38, 0), (40, 2), (42, 3), (47, 1), (49, 4)], [ZIh, ZRc, ZSb, Zid, Z1c], [], [], [], [((42, "Zero"), 172)], []⟩ [] Tryz.f10 (.two .no (.two (.two (.cut ⟨⟨[], [], []⟩, [(.norm, ⟨[0, 1], [], [.s 20 (.dat .bool)]⟩)]⟩ .no) .no) (.two .no (.two (.two .no (.two (.cut ⟨⟨[1, 26, 27], [], [.s 28 (.dat (.int .i64))]⟩, [(.exit 0, ⟨[], [], []⟩), (.ret, ⟨[], [], [.s 1000 (.dat .bool), .s 1001 (.dat (.slice (.leaf 3))), .s 1002 (.dat (.int .i64))]⟩)]⟩ .no) .no)) .no)))) [.slice (.slice (.leaf 3)), .slice (.leaf 3)] [.bool, .slice (.leaf 3), .int .i64] (m, c) = ZDc m c := by kernel_rfl
theorem ZRt : Zk Tryz.prog Zoi.1 Zoi.2 := Zm (C := ⟨Tryz.prog, [(38, 0), (40, 2), (42, 3), (47, 1), (49, 4)], [ZIh, ZRc, ZSb, Zid, Z1c], [], [], [], [((42, "Zero"), 172)], []⟩) ⟨Zmq, Z6i, Zng, Z7i, Z9i, trivial⟩ trivial trivial ⟨Zwn, trivial⟩ (inl := []) trivial (ann := (.two .no (.two (.two (.cut ⟨⟨[], [], []⟩, [(.norm, ⟨[0, 1], [], [.s 20 (.dat .bool)]⟩)]⟩ .no) .no) (.two .no (.two (.two .no (.two (.cut ⟨⟨[1, 26, 27], [], [.s 28 (.dat (.int .i64))]⟩, [(.exit 0, ⟨[], [], []⟩), (.ret, ⟨[], [], [.s 1000 (.dat .bool), .s 1001 (.dat (.slice (.leaf 3))), .s 1002 (.dat (.int .i64))]⟩)]⟩ .no) .no)) .no))))) Tryz.func10 (fun _ _ => by kernel_rfl) rfl (fun v vals x z ha hz => (Znu x.1 x.2).trans hz)
end Go.Eng
set_option maxRecDepth 100000
set_option maxHeartbeats 4000000
namespace Go.Eng
open Go.Proofs Go.RowKit
def Z8c:FuncId×Con:=(46,⟨[.slice (.slice (.pair (.pair (.leaf 4) (.pair (.leaf 4) (.pair (.leaf 4) (.leaf 4)))) (.pair (.leaf 4) (.pair (.leaf 4) (.pair (.leaf 4) (.leaf 4))))))],[.bool],fun p=>Zjc p⟩)
theorem Zpx (m:List (List ((Rat×Rat×Rat×Rat)×Rat×Rat×Rat×Rat))):Zl ⟨Tryz.prog,[(38,0),(40,2),(42,3),(47,1),(49,4)],[],[],[],[],[],[]⟩ [] Tryz.f46 (.two .no (.two (.two .no (.two (.cut ⟨⟨[0],[],[.s 3 (.dat (.int .i64))]⟩,[(.exit 0,⟨[0],[],[]⟩),(.ret,⟨[],[],[.s 1000 (.dat .bool)]⟩)]⟩ (.two (.two .no (.two (.two (.two (.cut ⟨⟨[],[],[]⟩,[(.norm,⟨[0,3],[],[.s 27 (.dat .bool)]⟩)]⟩ .no) .no) .no) .no)) .no)) .no)) .no)) [.slice (.slice (.pair (.pair (.leaf 4) (.pair (.leaf 4) (.pair (.leaf 4) (.leaf 4)))) (.pair (.leaf 4) (.pair (.leaf 4) (.pair (.leaf 4) (.leaf 4))))))] [.bool] (m)=Zjc m:=by kernel_rfl
theorem ZUi:Zk Tryz.prog Z8c.1 Z8c.2:=Zm (C:=⟨Tryz.prog,[(38,0),(40,2),(42,3),(47,1),(49,4)],[],[],[],[],[],[]⟩) trivial trivial trivial trivial (inl:=[]) trivial (ann:=(.two .no (.two (.two .no (.two (.cut ⟨⟨[0],[],[.s 3 (.dat (.int .i64))]⟩,[(.exit 0,⟨[0],[],[]⟩),(.ret,⟨[],[],[.s 1000 (.dat .bool)]⟩)]⟩ (.two (.two .no (.two (.two (.two (.cut ⟨⟨[],[],[]⟩,[(.norm,⟨[0,3],[],[.s 27 (.dat .bool)]⟩)]⟩ .no) .no) .no) .no)) .no)) .no)) .no))) Tryz.func46 (fun _ _=>by kernel_rfl) rfl (fun v vals x z ha hz=>(Zpx x).trans hz)
end Go.Eng
set_option maxRecDepth 100000
set_option maxHeartbeats 4000000
namespace Go.Eng
open Go.Proofs Go.RowKit
def Zdd:FuncId×Con:=(47,⟨[.slice (.slice (.pair (.pair (.leaf 4) (.pair (.leaf 4) (.pair (.leaf 4) (.leaf 4)))) (.pair (.leaf 4) (.pair (.leaf 4) (.pair (.leaf 4) (.leaf 4))))))],[.int .i64],fun p=>Z3c p⟩)
theorem ZCy (m:List (List ((Rat×Rat×Rat×Rat)×Rat×Rat×Rat×Rat))):Zl ⟨Tryz.prog,[(38,0),(40,2),(42,3),(47,1),(49,4)],[],[],[],[],[],[]⟩ [] Tryz.f47 .no [.slice (.slice (.pair (.pair (.leaf 4) (.pair (.leaf 4) (.pair (.leaf 4) (.leaf 4)))) (.pair (.leaf 4) (.pair (.leaf 4) (.pair (.leaf 4) (.leaf 4))))))] [.int .i64] (m)=Z3c m:=by kernel_rfl
theorem Zoj:Zk Tryz.prog Zdd.1 Zdd.2:=Zm (C:=⟨Tryz.prog,[(38,0),(40,2),(42,3),(47,1),(49,4)],[],[],[],[],[],[]⟩) trivial trivial trivial trivial (inl:=[]) trivial (ann:=.no) Tryz.func47 (fun _ _=>by kernel_rfl) rfl (fun v vals x z ha hz=>(ZCy x).trans hz)
end Go.Eng
set_option maxRecDepth 100000
set_option maxHeartbeats 4000000
namespace Go.Eng
open Go.Proofs Go.RowKit
def Z5m:FuncId×Con:=(60,⟨[],[.pair (.pair (.leaf 4) (.pair (.leaf 4) (.pair (.leaf 4) (.leaf 4)))) (.pair (.leaf 4) (.pair (.leaf 4) (.pair (.leaf 4) (.leaf 4))))],fun _=>Zsj⟩)
theorem rOne2_i  : Zl ⟨Tryz.prog,[(38,0),(40,2),(42,3),(47,1),(49,4)],[ZVc,ZYa],[],[],[],[],[]⟩ [] Tryz.f60 .no [] [.pair (.pair (.leaf 4) (.pair (.leaf 4) (.pair (.leaf 4) (.leaf 4)))) (.pair (.leaf 4) (.pair (.leaf 4) (.pair (.leaf 4) (.leaf 4))))] ()=Zsj  := by kernel_rfl
theorem rOne2_k:Zk Tryz.prog Z5m.1 Z5m.2:=Zm (C:=⟨Tryz.prog,[(38,0),(40,2),(42,3),(47,1),(49,4)],[ZVc,ZYa],[],[],[],[],[]⟩) ⟨Zek,Z8d,trivial⟩ trivial trivial trivial (inl:=[]) trivial (ann:=.no) Tryz.func60 (fun _ _=>by kernel_rfl) rfl (fun v vals x z ha hz=>(rOne2_i ).trans hz)
end Go.Eng
set_option maxRecDepth 100000
set_option maxHeartbeats 4000000
namespace Go.Eng
open Go.Proofs Go.RowKit
def Zhl:FuncId×Con:=(62,⟨[.pair (.pair (.leaf 4) (.pair (.leaf 4) (.pair (.leaf 4) (.leaf 4)))) (.pair (.leaf 4) (.pair (.leaf 4) (.pair (.leaf 4) (.leaf 4))))],[.pair (.pair (.leaf 4) (.pair (.leaf 4) (.pair (.leaf 4) (.leaf 4)))) (.pair (.leaf 4) (.pair (.leaf 4) (.pair (.leaf 4) (.leaf 4))))],fun p=>Z2i p⟩)
theorem wNeg_i (x:(Rat×Rat×Rat×Rat)×Rat×Rat×Rat×Rat):Zl ⟨Tryz.prog,[(38,0),(40,2),(42,3),(47,1),(49,4)],[ZBf],[],[],[],[],[]⟩ [] Tryz.f62 .no [.pair (.pair (.leaf 4) (.pair (.leaf 4) (.pair (.leaf 4) (.leaf 4)))) (.pair (.leaf 4) (.pair (.leaf 4) (.pair (.leaf 4) (.leaf 4))))] [.pair (.pair (.leaf 4) (.pair (.leaf 4) (.pair (.leaf 4) (.leaf 4)))) (.pair (.leaf 4) (.pair (.leaf 4) (.pair (.leaf 4) (.leaf 4))))] (x)=Z2i x:=by kernel_rfl
theorem wNeg_k:Zk Tryz.prog Zhl.1 Zhl.2:=Zm (C:=⟨Tryz.prog,[(38,0),(40,2),(42,3),(47,1),(49,4)],[ZBf],[],[],[],[],[]⟩) ⟨ZNn,trivial⟩ trivial trivial trivial (inl:=[]) trivial (ann:=.no) Tryz.func62 (fun _ _=>by kernel_rfl) rfl (fun v vals x z ha hz=>(wNeg_i x).trans hz)
theorem Zny {x y z:Rat} (h:Zna x y=some z):ZSo x y=some z:=by
 unfold Zna at h;split at h
 ·rename_i hh;obtain ⟨⟨a1,a2⟩,b1,b2⟩:=hh
  cases h
  unfold ZSo ZUb;have p1:=Zob x.num.natAbs y.num.natAbs;have p3:=Zob x.den y.den;have e1:Zqa x.num.natAbs y.num.natAbs=some (x.num.natAbs*y.num.natAbs):=by unfold Zqa;rw [if_pos ⟨ZBb (by omega),ZBb (by omega)⟩]
  have e3:Zqa x.den y.den=some (x.den*y.den):=by unfold Zqa;rw [if_pos ⟨ZBb (by omega),ZBb (by omega)⟩]
  rw [e1,Za,Za,Za,e3,Za];unfold Znb;rw [if_pos ⟨Zvd (by omega),Zvd (by omega),Nat.mul_ne_zero x.den_nz y.den_nz⟩,Za];have e:sgn ((decide (x.num<0)) != (decide (y.num<0))) (x.num.natAbs*y.num.natAbs)=x.num*y.num:=by
   have eN:((x.num.natAbs*y.num.natAbs:Nat):Int)=(x.num.natAbs:Int)*y.num.natAbs:=by simp
   unfold sgn;rw [eN];by_cases h:x.num<0
   ·have hx:(x.num.natAbs:Int) = -x.num:=by omega
    by_cases h2:y.num<0
    ·have hy:(y.num.natAbs:Int) = -y.num:=by omega
     simp [h,h2,hx,hy,Int.neg_mul,Int.mul_neg]
    ·have hy:(y.num.natAbs:Int)=y.num:=by omega
     simp [h,h2,hx,hy,Int.neg_mul,Int.mul_neg]
   ·have hx:(x.num.natAbs:Int)=x.num:=by omega
    by_cases h2:y.num<0
    ·have hy:(y.num.natAbs:Int) = -y.num:=by omega
     simp [h,h2,hx,hy,Int.neg_mul,Int.mul_neg]
    ·have hy:(y.num.natAbs:Int)=y.num:=by omega
     simp [h,h2,hx,hy,Int.neg_mul,Int.mul_neg]
  rw [e,← Rat.mul_def']
 ·cases h
end Go.Eng
set_option maxRecDepth 100000
set_option maxHeartbeats 4000000
namespace Go.Eng
open Go.Proofs Go.RowKit
def Znm:FuncId×Con:=(136,⟨[.leaf 4,.leaf 4],[.leaf 4],fun p=>Zna p.1 p.2⟩)
theorem rmul_i (x:Rat) (y:Rat):Zl ⟨Tryz.prog,[(47,1),(49,4)],[Zuc,Z4c,Zme],[],[],[],[],[]⟩ [] Tryz.f136 .no [.leaf 4,.leaf 4] [.leaf 4] (x,y)=ZSo x y:=by kernel_rfl
theorem rmul_k:Zk Tryz.prog Znm.1 Znm.2:=Zm (C:=⟨Tryz.prog,[(47,1),(49,4)],[Zuc,Z4c,Zme],[],[],[],[],[]⟩) ⟨Z7g,ZQi,Zel,trivial⟩ trivial trivial trivial (inl:=[]) trivial (ann:=.no) Tryz.func136 (fun _ _=>by kernel_rfl) rfl fun v vals x z ha hz=>(rmul_i x.1 x.2).trans (Zny hz)
end Go.Eng
set_option maxRecDepth 100000
set_option maxHeartbeats 4000000
namespace Go.Eng
open Go.Proofs Go.RowKit
def Zrf:FuncId×Con:=(103,⟨[.pair (.leaf 4) (.pair (.leaf 4) (.pair (.leaf 4) (.leaf 4))),.pair (.leaf 4) (.pair (.leaf 4) (.pair (.leaf 4) (.leaf 4)))],[.pair (.leaf 4) (.pair (.leaf 4) (.pair (.leaf 4) (.leaf 4)))],fun p=>Zhc p.1 p.2⟩)
theorem sMul_i (x:Rat×Rat×Rat×Rat) (y:Rat×Rat×Rat×Rat):Zl ⟨Tryz.prog,[(38,0),(40,2),(42,3),(47,1),(49,4)],[Z4d,ZYa,Znm,Z4h],[],[],[],[],[]⟩ [] Tryz.f103 (.two .no (.two .no (.two (.two .no (.two (.unroll 5 (.two (.two .no (.two (.two (.two .no (.two (.unroll 5 .no) .no)) .no) .no)) .no)) .no)) .no))) [.pair (.leaf 4) (.pair (.leaf 4) (.pair (.leaf 4) (.leaf 4))),.pair (.leaf 4) (.pair (.leaf 4) (.pair (.leaf 4) (.leaf 4)))] [.pair (.leaf 4) (.pair (.leaf 4) (.pair (.leaf 4) (.leaf 4)))] (x,y)=Zhc x y:=by kernel_rfl
theorem Z0n:Zk Tryz.prog Zrf.1 Zrf.2:=Zm (C:=⟨Tryz.prog,[(38,0),(40,2),(42,3),(47,1),(49,4)],[Z4d,ZYa,Znm,Z4h],[],[],[],[],[]⟩) ⟨ZMl,Z8d,rmul_k,ZHr,trivial⟩ trivial trivial trivial (inl:=[]) trivial (ann:=(.two .no (.two .no (.two (.two .no (.two (.unroll 5 (.two (.two .no (.two (.two (.two .no (.two (.unroll 5 .no) .no)) .no) .no)) .no)) .no)) .no)))) Tryz.func103 (fun _ _=>by kernel_rfl) rfl (fun v vals x z ha hz=>(sMul_i x.1 x.2).trans hz)
end Go.Eng
set_option maxRecDepth 100000
set_option maxHeartbeats 4000000
namespace Go.Eng
open Go.Proofs Go.RowKit
def Zwe:FuncId×Con:=(61,⟨[.pair (.pair (.leaf 4) (.pair (.leaf 4) (.pair (.leaf 4) (.leaf 4)))) (.pair (.leaf 4) (.pair (.leaf 4) (.pair (.leaf 4) (.leaf 4)))),.pair (.pair (.leaf 4) (.pair (.leaf 4) (.pair (.leaf 4) (.leaf 4)))) (.pair (.leaf 4) (.pair (.leaf 4) (.pair (.leaf 4) (.leaf 4))))],[.pair (.pair (.leaf 4) (.pair (.leaf 4) (.pair (.leaf 4) (.leaf 4)))) (.pair (.leaf 4) (.pair (.leaf 4) (.pair (.leaf 4) (.leaf 4))))],fun p=>ZFe p.1 p.2⟩)
theorem wMul_i (x:(Rat×Rat×Rat×Rat)×Rat×Rat×Rat×Rat) (y:(Rat×Rat×Rat×Rat)×Rat×Rat×Rat×Rat):Zl ⟨Tryz.prog,[(38,0),(40,2),(42,3),(47,1),(49,4)],[Zbh,Zrf,Zde],[],[],[],[],[]⟩ [] Tryz.f61 .no [.pair (.pair (.leaf 4) (.pair (.leaf 4) (.pair (.leaf 4) (.leaf 4)))) (.pair (.leaf 4) (.pair (.leaf 4) (.pair (.leaf 4) (.leaf 4)))),.pair (.pair (.leaf 4) (.pair (.leaf 4) (.pair (.leaf 4) (.leaf 4)))) (.pair (.leaf 4) (.pair (.leaf 4) (.pair (.leaf 4) (.leaf 4))))] [.pair (.pair (.leaf 4) (.pair (.leaf 4) (.pair (.leaf 4) (.leaf 4)))) (.pair (.leaf 4) (.pair (.leaf 4) (.pair (.leaf 4) (.leaf 4))))] (x,y)=ZFe x y:=by kernel_rfl
theorem Zan:Zk Tryz.prog Zwe.1 Zwe.2:=Zm (C:=⟨Tryz.prog,[(38,0),(40,2),(42,3),(47,1),(49,4)],[Zbh,Zrf,Zde],[],[],[],[],[]⟩) ⟨Zlq,Z0n,ZZl,trivial⟩ trivial trivial trivial (inl:=[]) trivial (ann:=.no) Tryz.func61 (fun _ _=>by kernel_rfl) rfl (fun v vals x z ha hz=>(wMul_i x.1 x.2).trans hz)
end Go.Eng
set_option maxRecDepth 100000
set_option maxHeartbeats 4000000
namespace Go.Eng
open Go.Proofs Go.RowKit
def Z2h:FuncId×Con:=(73,⟨[.pair (.pair (.leaf 4) (.pair (.leaf 4) (.pair (.leaf 4) (.leaf 4)))) (.pair (.leaf 4) (.pair (.leaf 4) (.pair (.leaf 4) (.leaf 4))))],[.pair (.pair (.leaf 4) (.pair (.leaf 4) (.pair (.leaf 4) (.leaf 4)))) (.pair (.leaf 4) (.pair (.leaf 4) (.pair (.leaf 4) (.leaf 4))))],fun p=>Zgi p⟩)
theorem wConj_i (x:(Rat×Rat×Rat×Rat)×Rat×Rat×Rat×Rat):Zl ⟨Tryz.prog,[(38,0),(40,2),(42,3),(47,1),(49,4)],[ZBf],[],[],[],[],[]⟩ [] Tryz.f73 .no [.pair (.pair (.leaf 4) (.pair (.leaf 4) (.pair (.leaf 4) (.leaf 4)))) (.pair (.leaf 4) (.pair (.leaf 4) (.pair (.leaf 4) (.leaf 4))))] [.pair (.pair (.leaf 4) (.pair (.leaf 4) (.pair (.leaf 4) (.leaf 4)))) (.pair (.leaf 4) (.pair (.leaf 4) (.pair (.leaf 4) (.leaf 4))))] (x)=Zgi x:=by kernel_rfl
theorem Ztq:Zk Tryz.prog Z2h.1 Z2h.2:=Zm (C:=⟨Tryz.prog,[(38,0),(40,2),(42,3),(47,1),(49,4)],[ZBf],[],[],[],[],[]⟩) ⟨ZNn,trivial⟩ trivial trivial trivial (inl:=[]) trivial (ann:=.no) Tryz.func73 (fun _ _=>by kernel_rfl) rfl (fun v vals x z ha hz=>(wConj_i x).trans hz)
end Go.Eng
set_option maxRecDepth 100000
set_option maxHeartbeats 4000000
namespace Go.Eng
open Go.Proofs Go.RowKit
def Zal:FuncId×Con:=(189,⟨[.pair (.leaf 4) (.pair (.leaf 4) (.pair (.leaf 4) (.leaf 4))),.int .i64],[.pair (.leaf 4) (.pair (.leaf 4) (.pair (.leaf 4) (.leaf 4)))],fun p=>Z7f p.1 p.2⟩)
theorem Zeu (x:Rat×Rat×Rat×Rat) (bit:Int):Zl ⟨Tryz.prog,[(38,0),(40,2),(42,3),(47,1),(49,4)],[Zci],[],[],[],[],[]⟩ [] Tryz.f189 (.two .no (.two (.two .no (.two (.unroll 5 (.two (.two .no (.two (.two (.two .no (.cut ⟨⟨[],[],[]⟩,[(.norm,⟨[1,2,4,5],[],[.l (.sl 2) (.box 51 (.dat (.pair (.leaf 4) (.pair (.leaf 4) (.pair (.leaf 4) (.leaf 4))))))]⟩)]⟩ .no)) .no) .no)) .no)) .no)) .no)) [.pair (.leaf 4) (.pair (.leaf 4) (.pair (.leaf 4) (.leaf 4))),.int .i64] [.pair (.leaf 4) (.pair (.leaf 4) (.pair (.leaf 4) (.leaf 4)))] (x,bit)=Z7f x bit:=by kernel_rfl
theorem ZAu:Zk Tryz.prog Zal.1 Zal.2:=Zm (C:=⟨Tryz.prog,[(38,0),(40,2),(42,3),(47,1),(49,4)],[Zci],[],[],[],[],[]⟩) ⟨Zts,trivial⟩ trivial trivial trivial (inl:=[]) trivial (ann:=(.two .no (.two (.two .no (.two (.unroll 5 (.two (.two .no (.two (.two (.two .no (.cut ⟨⟨[],[],[]⟩,[(.norm,⟨[1,2,4,5],[],[.l (.sl 2) (.box 51 (.dat (.pair (.leaf 4) (.pair (.leaf 4) (.pair (.leaf 4) (.leaf 4))))))]⟩)]⟩ .no)) .no) .no)) .no)) .no)) .no))) Tryz.func189 (fun _ _=>by kernel_rfl) rfl (fun v vals x z ha hz=>(Zeu x.1 x.2).trans hz)
def Zjp (x:Rat) (y:Rat):Option (Rat×Int) :=
 bnd (ZKc y) fun a =>
 ifb (a)
 (bnd (Zea (0:Int)) fun b =>
 some ((b,(3:Int))))
 (bnd (ZUb y) fun c =>
 bnd (Zqa x.num.natAbs c) fun d =>
 bnd (ZUb x) fun e =>
 bnd (Zqa e y.num.natAbs) fun f =>
 bnd (Znb ((decide (x.num<0)) != (decide (y.num<0))) d f) fun g =>
 some ((g,(0:Int))))
theorem ZSy {x y:Rat} {z:Rat×Int} (h:Z0j x y=some z):Zjp x y=some z:=by
 unfold Z0j at h;split at h
 ·rename_i hh;obtain ⟨⟨a1,a2⟩,b1,b2⟩:=hh
  cases h
  unfold Zjp ZKc;rw [Za];by_cases h0:y=0
  ·subst h0;rfl
  ·rw [decide_eq_false h0,Ze,if_neg h0];unfold ZUb;have hn:=ZMs h0;have p1:=Zob x.num.natAbs y.den;have p3:=Zob x.den y.num.natAbs;have e1:Zqa x.num.natAbs y.den=some (x.num.natAbs*y.den):=by unfold Zqa;rw [if_pos ⟨ZBb (by omega),ZBb (by omega)⟩]
   have e3:Zqa x.den y.num.natAbs=some (x.den*y.num.natAbs):=by unfold Zqa;rw [if_pos ⟨ZBb (by omega),ZBb (by omega)⟩]
   rw [Za,e1,Za,Za,e3,Za];unfold Znb;rw [if_pos ⟨Zvd (by omega),Zvd (by omega),Nat.mul_ne_zero x.den_nz (by omega)⟩,Za];have e:sgn ((decide (x.num<0)) != (decide (y.num<0))) (x.num.natAbs*y.den)=if y.num<0 then -(x.num*(y.den:Int)) else x.num*(y.den:Int):=by
    have eN:((x.num.natAbs*y.den:Nat):Int)=(x.num.natAbs:Int)*y.den:=by simp
    unfold sgn;rw [eN];by_cases h:x.num<0
    ·have hx:(x.num.natAbs:Int) = -x.num:=by omega
     by_cases h2:y.num<0 <;> simp [h,h2,hx,Int.neg_mul]
    ·have hx:(x.num.natAbs:Int)=x.num:=by omega
     by_cases h2:y.num<0 <;> simp [h,h2,hx,Int.neg_mul]
   rw [e,← Zot h0]
 ·cases h
end Go.Eng
set_option maxRecDepth 100000
set_option maxHeartbeats 4000000
namespace Go.Eng
open Go.Proofs Go.RowKit
def Zmk:FuncId×Con:=(197,⟨[.leaf 4,.leaf 4],[.leaf 4,.int .i64],fun p=>Z0j p.1 p.2⟩)
theorem rdiv_i (x:Rat) (y:Rat):Zl ⟨Tryz.prog,[(47,1),(49,4)],[ZYa,Zuc,ZGf,Z4c,Zme],[],[],[],[],[]⟩ [] Tryz.f197 .no [.leaf 4,.leaf 4] [.leaf 4,.int .i64] (x,y)=Zjp x y:=by kernel_rfl
theorem rdiv_k:Zk Tryz.prog Zmk.1 Zmk.2:=Zm (C:=⟨Tryz.prog,[(47,1),(49,4)],[ZYa,Zuc,ZGf,Z4c,Zme],[],[],[],[],[]⟩) ⟨Z8d,Z7g,Z8o,ZQi,Zel,trivial⟩ trivial trivial trivial (inl:=[]) trivial (ann:=.no) Tryz.func197 (fun _ _=>by kernel_rfl) rfl fun v vals x z ha hz=>(rdiv_i x.1 x.2).trans (ZSy hz)
theorem rbyF_eq {x y z:Rat} (h:Z9d x y=some z):rby_m x y=some z:=by
 unfold Z9d at h;split at h
 ·rename_i hh
  cases h
  unfold rby_m Z0j;rw [if_pos hh,Za];split <;> rfl
 ·cases h
end Go.Eng
set_option maxRecDepth 100000
set_option maxHeartbeats 4000000
namespace Go.Eng
open Go.Proofs Go.RowKit
def Ztm:FuncId×Con:=(190,⟨[.leaf 4,.leaf 4],[.leaf 4],fun p=>Z9d p.1 p.2⟩)
theorem rby_i (x:Rat) (y:Rat):Zl ⟨Tryz.prog,[(47,1),(49,4)],[Zmk],[],[],[],[],[]⟩ [] Tryz.f190 .no [.leaf 4,.leaf 4] [.leaf 4] (x,y)=rby_m x y:=by kernel_rfl
theorem rby_k:Zk Tryz.prog Ztm.1 Ztm.2:=Zm (C:=⟨Tryz.prog,[(47,1),(49,4)],[Zmk],[],[],[],[],[]⟩) ⟨rdiv_k,trivial⟩ trivial trivial trivial (inl:=[]) trivial (ann:=.no) Tryz.func190 (fun _ _=>by kernel_rfl) rfl fun v vals x z ha hz=>(rby_i x.1 x.2).trans (rbyF_eq hz)
end Go.Eng
set_option maxRecDepth 100000
set_option maxHeartbeats 4000000
namespace Go.Eng
open Go.Proofs Go.RowKit
def ZYk:FuncId×Con:=(167,⟨[.pair (.leaf 4) (.pair (.leaf 4) (.pair (.leaf 4) (.leaf 4))),.pair (.leaf 4) (.pair (.leaf 4) (.pair (.leaf 4) (.leaf 4)))],[.pair (.leaf 4) (.pair (.leaf 4) (.pair (.leaf 4) (.leaf 4))),.int .i64],fun p=>Z6g p.1 p.2⟩)
theorem sDiv_i (x:Rat×Rat×Rat×Rat) (y:Rat×Rat×Rat×Rat):Zl ⟨Tryz.prog,[(38,0),(40,2),(42,3),(47,1),(49,4)],[Z4d,ZYa,Znh,Zrf,Zal,Ztm],[],[],[],[],[]⟩ [] Tryz.f167 .no [.pair (.leaf 4) (.pair (.leaf 4) (.pair (.leaf 4) (.leaf 4))),.pair (.leaf 4) (.pair (.leaf 4) (.pair (.leaf 4) (.leaf 4)))] [.pair (.leaf 4) (.pair (.leaf 4) (.pair (.leaf 4) (.leaf 4))),.int .i64] (x,y)=Z6g x y:=by kernel_rfl
theorem sDiv_k:Zk Tryz.prog ZYk.1 ZYk.2:=Zm (C:=⟨Tryz.prog,[(38,0),(40,2),(42,3),(47,1),(49,4)],[Z4d,ZYa,Znh,Zrf,Zal,Ztm],[],[],[],[],[]⟩) ⟨ZMl,Z8d,Zrr,Z0n,ZAu,rby_k,trivial⟩ trivial trivial trivial (inl:=[]) trivial (ann:=.no) Tryz.func167 (fun _ _=>by kernel_rfl) rfl (fun v vals x z ha hz=>(sDiv_i x.1 x.2).trans hz)
end Go.Eng
set_option maxRecDepth 100000
set_option maxHeartbeats 4000000
namespace Go.Eng
open Go.Proofs Go.RowKit
def ZEk:FuncId×Con:=(168,⟨[.pair (.pair (.leaf 4) (.pair (.leaf 4) (.pair (.leaf 4) (.leaf 4)))) (.pair (.leaf 4) (.pair (.leaf 4) (.pair (.leaf 4) (.leaf 4))))],[.pair (.leaf 4) (.pair (.leaf 4) (.pair (.leaf 4) (.leaf 4)))],fun p=>Zeh p⟩)
theorem wNorm_i (x:(Rat×Rat×Rat×Rat)×Rat×Rat×Rat×Rat):Zl ⟨Tryz.prog,[(38,0),(40,2),(42,3),(47,1),(49,4)],[Zrf,Zde],[],[],[],[],[]⟩ [] Tryz.f168 .no [.pair (.pair (.leaf 4) (.pair (.leaf 4) (.pair (.leaf 4) (.leaf 4)))) (.pair (.leaf 4) (.pair (.leaf 4) (.pair (.leaf 4) (.leaf 4))))] [.pair (.leaf 4) (.pair (.leaf 4) (.pair (.leaf 4) (.leaf 4)))] (x)=Zeh x:=by kernel_rfl
theorem wNorm_k:Zk Tryz.prog ZEk.1 ZEk.2:=Zm (C:=⟨Tryz.prog,[(38,0),(40,2),(42,3),(47,1),(49,4)],[Zrf,Zde],[],[],[],[],[]⟩) ⟨Z0n,ZZl,trivial⟩ trivial trivial trivial (inl:=[]) trivial (ann:=.no) Tryz.func168 (fun _ _=>by kernel_rfl) rfl (fun v vals x z ha hz=>(wNorm_i x).trans hz)
end Go.Eng
set_option maxRecDepth 100000
set_option maxHeartbeats 4000000
namespace Go.Eng
open Go.Proofs Go.RowKit
def ZTm:FuncId×Con:=(139,⟨[.pair (.pair (.leaf 4) (.pair (.leaf 4) (.pair (.leaf 4) (.leaf 4)))) (.pair (.leaf 4) (.pair (.leaf 4) (.pair (.leaf 4) (.leaf 4)))),.pair (.pair (.leaf 4) (.pair (.leaf 4) (.pair (.leaf 4) (.leaf 4)))) (.pair (.leaf 4) (.pair (.leaf 4) (.pair (.leaf 4) (.leaf 4))))],[.pair (.pair (.leaf 4) (.pair (.leaf 4) (.pair (.leaf 4) (.leaf 4)))) (.pair (.leaf 4) (.pair (.leaf 4) (.pair (.leaf 4) (.leaf 4)))),.int .i64],fun p=>ZMk p.1 p.2⟩)
theorem wDiv_i (x:(Rat×Rat×Rat×Rat)×Rat×Rat×Rat×Rat) (y:(Rat×Rat×Rat×Rat)×Rat×Rat×Rat×Rat):Zl ⟨Tryz.prog,[(38,0),(40,2),(42,3),(47,1),(49,4)],[ZVc,Zad,Zwe,Z2h,ZYa,ZYk,ZEk],[],[],[],[],[]⟩ [] Tryz.f139 .no [.pair (.pair (.leaf 4) (.pair (.leaf 4) (.pair (.leaf 4) (.leaf 4)))) (.pair (.leaf 4) (.pair (.leaf 4) (.pair (.leaf 4) (.leaf 4)))),.pair (.pair (.leaf 4) (.pair (.leaf 4) (.pair (.leaf 4) (.leaf 4)))) (.pair (.leaf 4) (.pair (.leaf 4) (.pair (.leaf 4) (.leaf 4))))] [.pair (.pair (.leaf 4) (.pair (.leaf 4) (.pair (.leaf 4) (.leaf 4)))) (.pair (.leaf 4) (.pair (.leaf 4) (.pair (.leaf 4) (.leaf 4)))),.int .i64] (x,y)=ZMk x y:=by kernel_rfl
theorem wDiv_k:Zk Tryz.prog ZTm.1 ZTm.2:=Zm (C:=⟨Tryz.prog,[(38,0),(40,2),(42,3),(47,1),(49,4)],[ZVc,Zad,Zwe,Z2h,ZYa,ZYk,ZEk],[],[],[],[],[]⟩) ⟨Zek,Zlj,Zan,Ztq,Z8d,sDiv_k,wNorm_k,trivial⟩ trivial trivial trivial (inl:=[]) trivial (ann:=.no) Tryz.func139 (fun _ _=>by kernel_rfl) rfl (fun v vals x z ha hz=>(wDiv_i x.1 x.2).trans hz)
end Go.Eng
set_option maxRecDepth 100000
set_option maxHeartbeats 4000000
namespace Go.Eng
open Go.Proofs Go.RowKit
def Zpn:FuncId×Con:=(106,⟨[.pair (.pair (.leaf 4) (.pair (.leaf 4) (.pair (.leaf 4) (.leaf 4)))) (.pair (.leaf 4) (.pair (.leaf 4) (.pair (.leaf 4) (.leaf 4)))),.pair (.pair (.leaf 4) (.pair (.leaf 4) (.pair (.leaf 4) (.leaf 4)))) (.pair (.leaf 4) (.pair (.leaf 4) (.pair (.leaf 4) (.leaf 4))))],[.pair (.pair (.leaf 4) (.pair (.leaf 4) (.pair (.leaf 4) (.leaf 4)))) (.pair (.leaf 4) (.pair (.leaf 4) (.pair (.leaf 4) (.leaf 4))))],fun p=>Zbj p.1 p.2⟩)
theorem rOver_i (x:(Rat×Rat×Rat×Rat)×Rat×Rat×Rat×Rat) (y:(Rat×Rat×Rat×Rat)×Rat×Rat×Rat×Rat):Zl ⟨Tryz.prog,[(38,0),(40,2),(42,3),(47,1),(49,4)],[ZTm],[],[],[],[],[]⟩ [] Tryz.f106 .no [.pair (.pair (.leaf 4) (.pair (.leaf 4) (.pair (.leaf 4) (.leaf 4)))) (.pair (.leaf 4) (.pair (.leaf 4) (.pair (.leaf 4) (.leaf 4)))),.pair (.pair (.leaf 4) (.pair (.leaf 4) (.pair (.leaf 4) (.leaf 4)))) (.pair (.leaf 4) (.pair (.leaf 4) (.pair (.leaf 4) (.leaf 4))))] [.pair (.pair (.leaf 4) (.pair (.leaf 4) (.pair (.leaf 4) (.leaf 4)))) (.pair (.leaf 4) (.pair (.leaf 4) (.pair (.leaf 4) (.leaf 4))))] (x,y)=Zbj x y:=by kernel_rfl
theorem rOver_k:Zk Tryz.prog Zpn.1 Zpn.2:=Zm (C:=⟨Tryz.prog,[(38,0),(40,2),(42,3),(47,1),(49,4)],[ZTm],[],[],[],[],[]⟩) ⟨wDiv_k,trivial⟩ trivial trivial trivial (inl:=[]) trivial (ann:=.no) Tryz.func106 (fun _ _=>by kernel_rfl) rfl (fun v vals x z ha hz=>(rOver_i x.1 x.2).trans hz)
end Go.Eng
set_option maxRecDepth 100000
set_option maxHeartbeats 4000000
namespace Go.Eng
open Go.Proofs Go.RowKit
def Zdh:FuncId×Con:=(65,⟨[.slice (.slice (.pair (.pair (.leaf 4) (.pair (.leaf 4) (.pair (.leaf 4) (.leaf 4)))) (.pair (.leaf 4) (.pair (.leaf 4) (.pair (.leaf 4) (.leaf 4)))))),.int .i64],[.slice (.slice (.pair (.pair (.leaf 4) (.pair (.leaf 4) (.pair (.leaf 4) (.leaf 4)))) (.pair (.leaf 4) (.pair (.leaf 4) (.pair (.leaf 4) (.leaf 4)))))),.slice (.int .i64)],fun p=>ZFh p.1 p.2⟩)
theorem rForm_i (m:List (List ((Rat×Rat×Rat×Rat)×Rat×Rat×Rat×Rat))) (columns:Int):Zl ⟨Tryz.prog,[(38,0),(40,2),(42,3),(47,1),(49,4)],[Zad,Zwe,ZGh,Zpn],[30,31],[],[],[],[]⟩ [] Tryz.f65 (.two .no (.two .no (.two (.two .no (.two (.cut ⟨⟨[0,1],[],[.s 6 (.mat 31 53 (.pair (.pair (.leaf 4) (.pair (.leaf 4) (.pair (.leaf 4) (.leaf 4)))) (.pair (.leaf 4) (.pair (.leaf 4) (.pair (.leaf 4) (.leaf 4)))))),.s 7 (.dat (.int .i64))]⟩,[(.exit 0,⟨[1],[],[.s 6 (.mat 31 53 (.pair (.pair (.leaf 4) (.pair (.leaf 4) (.pair (.leaf 4) (.leaf 4)))) (.pair (.leaf 4) (.pair (.leaf 4) (.pair (.leaf 4) (.leaf 4))))))]⟩)]⟩ .no) .no)) (.two .no (.two (.two .no (.two (.cut ⟨⟨[1,6],[],[.s 8 (.own 3 (.int .i64)),.s 9 (.dat (.int .i64)),.l (.sl 6) (.mat 31 53 (.pair (.pair (.leaf 4) (.pair (.leaf 4) (.pair (.leaf 4) (.leaf 4)))) (.pair (.leaf 4) (.pair (.leaf 4) (.pair (.leaf 4) (.leaf 4))))))]⟩,[(.exit 2,⟨[6],[],[.s 8 (.own 3 (.int .i64)),.l (.sl 6) (.mat 31 53 (.pair (.pair (.leaf 4) (.pair (.leaf 4) (.pair (.leaf 4) (.leaf 4)))) (.pair (.leaf 4) (.pair (.leaf 4) (.pair (.leaf 4) (.leaf 4))))))]⟩)]⟩ (.two (.two .no (.two (.cut ⟨⟨[],[],[]⟩,[(.norm,⟨[1,6,9],[],[.s 8 (.own 3 (.int .i64)),.l (.sl 6) (.mat 31 53 (.pair (.pair (.leaf 4) (.pair (.leaf 4) (.pair (.leaf 4) (.leaf 4)))) (.pair (.leaf 4) (.pair (.leaf 4) (.pair (.leaf 4) (.leaf 4))))))]⟩)]⟩ (.two (.two .no (.two .no (.two (.two (.cut ⟨⟨[1,6,8,9,10],[],[.s 11 (.dat (.int .i64))]⟩,[(.exit 4,⟨[1,6,8,9,10],[],[.s 11 (.dat (.int .i64))]⟩)]⟩ (.two (.two (.two (.cut ⟨⟨[],[],[]⟩,[(.norm,⟨[1,6,8,9,10,11],[],[.s 53 (.dat .bool)]⟩)]⟩ .no) .no) .no) .no)) .no) (.two .no (.two .no (.two .no (.two (.two .no (.two (.cut ⟨⟨[1,6,8,9,10,12],[],[.s 13 (.dat (.int .i64)),.l (.sl 6) (.mat 31 53 (.pair (.pair (.leaf 4) (.pair (.leaf 4) (.pair (.leaf 4) (.leaf 4)))) (.pair (.leaf 4) (.pair (.leaf 4) (.pair (.leaf 4) (.leaf 4))))))]⟩,[(.exit 6,⟨[1,6,8,9,10],[],[.l (.sl 6) (.mat 31 53 (.pair (.pair (.leaf 4) (.pair (.leaf 4) (.pair (.leaf 4) (.leaf 4)))) (.pair (.leaf 4) (.pair (.leaf 4) (.pair (.leaf 4) (.leaf 4))))))]⟩)]⟩ .no) .no)) (.two (.two .no (.two (.cut ⟨⟨[1,6,8,9,10],[],[.s 14 (.dat (.int .i64)),.l (.sl 6) (.mat 31 53 (.pair (.pair (.leaf 4) (.pair (.leaf 4) (.pair (.leaf 4) (.leaf 4)))) (.pair (.leaf 4) (.pair (.leaf 4) (.pair (.leaf 4) (.leaf 4))))))]⟩,[(.exit 8,⟨[1,6,8,9],[],[.l (.sl 6) (.mat 31 53 (.pair (.pair (.leaf 4) (.pair (.leaf 4) (.pair (.leaf 4) (.leaf 4)))) (.pair (.leaf 4) (.pair (.leaf 4) (.pair (.leaf 4) (.leaf 4))))))]⟩)]⟩ (.two (.two .no (.two (.cut ⟨⟨[],[],[]⟩,[(.norm,⟨[1,6,8,9,10,14],[],[.l (.sl 6) (.mat 31 53 (.pair (.pair (.leaf 4) (.pair (.leaf 4) (.pair (.leaf 4) (.leaf 4)))) (.pair (.leaf 4) (.pair (.leaf 4) (.pair (.leaf 4) (.leaf 4))))))]⟩)]⟩ (.two (.two .no (.two .no (.two .no (.two (.cut ⟨⟨[1,6,8,9,10,14,15],[],[.s 16 (.dat (.int .i64)),.l (.sl 6) (.mat 31 53 (.pair (.pair (.leaf 4) (.pair (.leaf 4) (.pair (.leaf 4) (.leaf 4)))) (.pair (.leaf 4) (.pair (.leaf 4) (.pair (.leaf 4) (.leaf 4))))))]⟩,[(.exit 10,⟨[1,6,8,9,10,14],[],[.l (.sl 6) (.mat 31 53 (.pair (.pair (.leaf 4) (.pair (.leaf 4) (.pair (.leaf 4) (.leaf 4)))) (.pair (.leaf 4) (.pair (.leaf 4) (.pair (.leaf 4) (.leaf 4))))))]⟩)]⟩ .no) .no)))) .no)) .no)) .no)) .no)) .no)))))))) .no)) .no)) .no)) .no)) .no))))) [.slice (.slice (.pair (.pair (.leaf 4) (.pair (.leaf 4) (.pair (.leaf 4) (.leaf 4)))) (.pair (.leaf 4) (.pair (.leaf 4) (.pair (.leaf 4) (.leaf 4)))))),.int .i64] [.slice (.slice (.pair (.pair (.leaf 4) (.pair (.leaf 4) (.pair (.leaf 4) (.leaf 4)))) (.pair (.leaf 4) (.pair (.leaf 4) (.pair (.leaf 4) (.leaf 4)))))),.slice (.int .i64)] (m,columns)=ZFh m columns:=by kernel_rfl
theorem ZNs:Zk Tryz.prog Zdh.1 Zdh.2:=Zm (C:=⟨Tryz.prog,[(38,0),(40,2),(42,3),(47,1),(49,4)],[Zad,Zwe,ZGh,Zpn],[30,31],[],[],[],[]⟩) ⟨Zlj,Zan,Z3s,rOver_k,trivial⟩ trivial trivial trivial (inl:=[]) trivial (ann:=(.two .no (.two .no (.two (.two .no (.two (.cut ⟨⟨[0,1],[],[.s 6 (.mat 31 53 (.pair (.pair (.leaf 4) (.pair (.leaf 4) (.pair (.leaf 4) (.leaf 4)))) (.pair (.leaf 4) (.pair (.leaf 4) (.pair (.leaf 4) (.leaf 4)))))),.s 7 (.dat (.int .i64))]⟩,[(.exit 0,⟨[1],[],[.s 6 (.mat 31 53 (.pair (.pair (.leaf 4) (.pair (.leaf 4) (.pair (.leaf 4) (.leaf 4)))) (.pair (.leaf 4) (.pair (.leaf 4) (.pair (.leaf 4) (.leaf 4))))))]⟩)]⟩ .no) .no)) (.two .no (.two (.two .no (.two (.cut ⟨⟨[1,6],[],[.s 8 (.own 3 (.int .i64)),.s 9 (.dat (.int .i64)),.l (.sl 6) (.mat 31 53 (.pair (.pair (.leaf 4) (.pair (.leaf 4) (.pair (.leaf 4) (.leaf 4)))) (.pair (.leaf 4) (.pair (.leaf 4) (.pair (.leaf 4) (.leaf 4))))))]⟩,[(.exit 2,⟨[6],[],[.s 8 (.own 3 (.int .i64)),.l (.sl 6) (.mat 31 53 (.pair (.pair (.leaf 4) (.pair (.leaf 4) (.pair (.leaf 4) (.leaf 4)))) (.pair (.leaf 4) (.pair (.leaf 4) (.pair (.leaf 4) (.leaf 4))))))]⟩)]⟩ (.two (.two .no (.two (.cut ⟨⟨[],[],[]⟩,[(.norm,⟨[1,6,9],[],[.s 8 (.own 3 (.int .i64)),.l (.sl 6) (.mat 31 53 (.pair (.pair (.leaf 4) (.pair (.leaf 4) (.pair (.leaf 4) (.leaf 4)))) (.pair (.leaf 4) (.pair (.leaf 4) (.pair (.leaf 4) (.leaf 4))))))]⟩)]⟩ (.two (.two .no (.two .no (.two (.two (.cut ⟨⟨[1,6,8,9,10],[],[.s 11 (.dat (.int .i64))]⟩,[(.exit 4,⟨[1,6,8,9,10],[],[.s 11 (.dat (.int .i64))]⟩)]⟩ (.two (.two (.two (.cut ⟨⟨[],[],[]⟩,[(.norm,⟨[1,6,8,9,10,11],[],[.s 53 (.dat .bool)]⟩)]⟩ .no) .no) .no) .no)) .no) (.two .no (.two .no (.two .no (.two (.two .no (.two (.cut ⟨⟨[1,6,8,9,10,12],[],[.s 13 (.dat (.int .i64)),.l (.sl 6) (.mat 31 53 (.pair (.pair (.leaf 4) (.pair (.leaf 4) (.pair (.leaf 4) (.leaf 4)))) (.pair (.leaf 4) (.pair (.leaf 4) (.pair (.leaf 4) (.leaf 4))))))]⟩,[(.exit 6,⟨[1,6,8,9,10],[],[.l (.sl 6) (.mat 31 53 (.pair (.pair (.leaf 4) (.pair (.leaf 4) (.pair (.leaf 4) (.leaf 4)))) (.pair (.leaf 4) (.pair (.leaf 4) (.pair (.leaf 4) (.leaf 4))))))]⟩)]⟩ .no) .no)) (.two (.two .no (.two (.cut ⟨⟨[1,6,8,9,10],[],[.s 14 (.dat (.int .i64)),.l (.sl 6) (.mat 31 53 (.pair (.pair (.leaf 4) (.pair (.leaf 4) (.pair (.leaf 4) (.leaf 4)))) (.pair (.leaf 4) (.pair (.leaf 4) (.pair (.leaf 4) (.leaf 4))))))]⟩,[(.exit 8,⟨[1,6,8,9],[],[.l (.sl 6) (.mat 31 53 (.pair (.pair (.leaf 4) (.pair (.leaf 4) (.pair (.leaf 4) (.leaf 4)))) (.pair (.leaf 4) (.pair (.leaf 4) (.pair (.leaf 4) (.leaf 4))))))]⟩)]⟩ (.two (.two .no (.two (.cut ⟨⟨[],[],[]⟩,[(.norm,⟨[1,6,8,9,10,14],[],[.l (.sl 6) (.mat 31 53 (.pair (.pair (.leaf 4) (.pair (.leaf 4) (.pair (.leaf 4) (.leaf 4)))) (.pair (.leaf 4) (.pair (.leaf 4) (.pair (.leaf 4) (.leaf 4))))))]⟩)]⟩ (.two (.two .no (.two .no (.two .no (.two (.cut ⟨⟨[1,6,8,9,10,14,15],[],[.s 16 (.dat (.int .i64)),.l (.sl 6) (.mat 31 53 (.pair (.pair (.leaf 4) (.pair (.leaf 4) (.pair (.leaf 4) (.leaf 4)))) (.pair (.leaf 4) (.pair (.leaf 4) (.pair (.leaf 4) (.leaf 4))))))]⟩,[(.exit 10,⟨[1,6,8,9,10,14],[],[.l (.sl 6) (.mat 31 53 (.pair (.pair (.leaf 4) (.pair (.leaf 4) (.pair (.leaf 4) (.leaf 4)))) (.pair (.leaf 4) (.pair (.leaf 4) (.pair (.leaf 4) (.leaf 4))))))]⟩)]⟩ .no) .no)))) .no)) .no)) .no)) .no)) .no)))))))) .no)) .no)) .no)) .no)) .no)))))) Tryz.func65 (fun _ _=>by kernel_rfl) rfl (fun v vals x z ha hz=>(rForm_i x.1 x.2).trans hz)
end Go.Eng
set_option maxRecDepth 100000
set_option maxHeartbeats 4000000
namespace Go.Eng
open Go.Proofs Go.RowKit
def Z5c:FuncId×Con:=(53,⟨[],[.pair (.pair (.leaf 4) (.pair (.leaf 4) (.pair (.leaf 4) (.leaf 4)))) (.pair (.leaf 4) (.pair (.leaf 4) (.pair (.leaf 4) (.leaf 4))))],fun _=>ZNd⟩)
theorem Zyz  : Zl ⟨Tryz.prog,[(38,0),(40,2),(42,3),(47,1),(49,4)],[ZVc,ZYa],[],[],[],[],[]⟩ [] Tryz.f53 .no [] [.pair (.pair (.leaf 4) (.pair (.leaf 4) (.pair (.leaf 4) (.leaf 4)))) (.pair (.leaf 4) (.pair (.leaf 4) (.pair (.leaf 4) (.leaf 4))))] ()=ZNd  := by kernel_rfl
theorem ZGj:Zk Tryz.prog Z5c.1 Z5c.2:=Zm (C:=⟨Tryz.prog,[(38,0),(40,2),(42,3),(47,1),(49,4)],[ZVc,ZYa],[],[],[],[],[]⟩) ⟨Zek,Z8d,trivial⟩ trivial trivial trivial (inl:=[]) trivial (ann:=.no) Tryz.func53 (fun _ _=>by kernel_rfl) rfl (fun v vals x z ha hz=>(Zyz ).trans hz)
end Go.Eng
set_option maxRecDepth 100000
set_option maxHeartbeats 4000000
namespace Go.Eng
open Go.Proofs Go.RowKit
def Zth:FuncId×ConM:=(69,⟨[.int .i64,.int .i64],31,53,.pair (.pair (.leaf 4) (.pair (.leaf 4) (.pair (.leaf 4) (.leaf 4)))) (.pair (.leaf 4) (.pair (.leaf 4) (.pair (.leaf 4) (.leaf 4)))),fun p=>ZCf p.1 p.2⟩)
theorem ZbA (rows:Int) (columns:Int):Z5j ⟨Tryz.prog,[(38,0),(40,2),(42,3),(47,1),(49,4)],[Z5c],[9],[],[],[],[]⟩ [] Tryz.f69 (.two .no (.two .no (.two (.two .no (.two (.cut ⟨⟨[0,1,5],[],[.s 6 (.dat (.int .i64)),.l (.sl 5) (.mat 31 53 (.pair (.pair (.leaf 4) (.pair (.leaf 4) (.pair (.leaf 4) (.leaf 4)))) (.pair (.leaf 4) (.pair (.leaf 4) (.pair (.leaf 4) (.leaf 4))))))]⟩,[(.exit 0,⟨[5],[],[.l (.sl 5) (.mat 31 53 (.pair (.pair (.leaf 4) (.pair (.leaf 4) (.pair (.leaf 4) (.leaf 4)))) (.pair (.leaf 4) (.pair (.leaf 4) (.pair (.leaf 4) (.leaf 4))))))]⟩)]⟩ (.two (.two .no (.two (.two (.two .no (.two (.cut ⟨⟨[0,1,5,6],[],[.s 7 (.dat (.int .i64)),.l (.sl 5) (.mat 31 53 (.pair (.pair (.leaf 4) (.pair (.leaf 4) (.pair (.leaf 4) (.leaf 4)))) (.pair (.leaf 4) (.pair (.leaf 4) (.pair (.leaf 4) (.leaf 4))))))]⟩,[(.exit 2,⟨[0,1,5,6],[],[.l (.sl 5) (.mat 31 53 (.pair (.pair (.leaf 4) (.pair (.leaf 4) (.pair (.leaf 4) (.leaf 4)))) (.pair (.leaf 4) (.pair (.leaf 4) (.pair (.leaf 4) (.leaf 4))))))]⟩)]⟩ .no) .no)) .no) .no)) .no)) .no)) .no))) [.int .i64,.int .i64] 31 53 (.pair (.pair (.leaf 4) (.pair (.leaf 4) (.pair (.leaf 4) (.leaf 4)))) (.pair (.leaf 4) (.pair (.leaf 4) (.pair (.leaf 4) (.leaf 4))))) (rows,columns)=ZCf rows columns:=by kernel_rfl
theorem ZEs:Zjh Tryz.prog Zth.1 Zth.2:=Zkq (C:=⟨Tryz.prog,[(38,0),(40,2),(42,3),(47,1),(49,4)],[Z5c],[9],[],[],[],[]⟩) ⟨ZGj,trivial⟩ trivial trivial trivial (inl:=[]) trivial (ann:=(.two .no (.two .no (.two (.two .no (.two (.cut ⟨⟨[0,1,5],[],[.s 6 (.dat (.int .i64)),.l (.sl 5) (.mat 31 53 (.pair (.pair (.leaf 4) (.pair (.leaf 4) (.pair (.leaf 4) (.leaf 4)))) (.pair (.leaf 4) (.pair (.leaf 4) (.pair (.leaf 4) (.leaf 4))))))]⟩,[(.exit 0,⟨[5],[],[.l (.sl 5) (.mat 31 53 (.pair (.pair (.leaf 4) (.pair (.leaf 4) (.pair (.leaf 4) (.leaf 4)))) (.pair (.leaf 4) (.pair (.leaf 4) (.pair (.leaf 4) (.leaf 4))))))]⟩)]⟩ (.two (.two .no (.two (.two (.two .no (.two (.cut ⟨⟨[0,1,5,6],[],[.s 7 (.dat (.int .i64)),.l (.sl 5) (.mat 31 53 (.pair (.pair (.leaf 4) (.pair (.leaf 4) (.pair (.leaf 4) (.leaf 4)))) (.pair (.leaf 4) (.pair (.leaf 4) (.pair (.leaf 4) (.leaf 4))))))]⟩,[(.exit 2,⟨[0,1,5,6],[],[.l (.sl 5) (.mat 31 53 (.pair (.pair (.leaf 4) (.pair (.leaf 4) (.pair (.leaf 4) (.leaf 4)))) (.pair (.leaf 4) (.pair (.leaf 4) (.pair (.leaf 4) (.leaf 4))))))]⟩)]⟩ .no) .no)) .no) .no)) .no)) .no)) .no)))) Tryz.func69 (fun _ _=>by kernel_rfl) rfl (fun x z hz=>(ZbA x.1 x.2).trans hz)
end Go.Eng
set_option maxRecDepth 100000
set_option maxHeartbeats 4000000
namespace Go.Eng
open Go.Proofs Go.RowKit
def ZPk:FuncId×Con:=(48,⟨[.slice (.slice (.pair (.pair (.leaf 4) (.pair (.leaf 4) (.pair (.leaf 4) (.leaf 4)))) (.pair (.leaf 4) (.pair (.leaf 4) (.pair (.leaf 4) (.leaf 4))))))],[.slice (.slice (.pair (.pair (.leaf 4) (.pair (.leaf 4) (.pair (.leaf 4) (.leaf 4)))) (.pair (.leaf 4) (.pair (.leaf 4) (.pair (.leaf 4) (.leaf 4)))))),.int .i64],fun p=>ZFj p⟩)
theorem ZRx (m:List (List ((Rat×Rat×Rat×Rat)×Rat×Rat×Rat×Rat))):Zl ⟨Tryz.prog,[(38,0),(40,2),(42,3),(47,1),(49,4)],[Z8c,Zdd,Z5m,Zhl,Zdh],[75,76,100048],[],[],[],[Zth]⟩ [] Tryz.f48 (.two .no (.two .no (.two .no (.two .no (.two .no (.two (.two .no (.two (.cut ⟨⟨[4,5,6],[],[.s 7 (.mat 31 53 (.pair (.pair (.leaf 4) (.pair (.leaf 4) (.pair (.leaf 4) (.leaf 4)))) (.pair (.leaf 4) (.pair (.leaf 4) (.pair (.leaf 4) (.leaf 4)))))),.s 8 (.dat (.int .i64))]⟩,[(.exit 0,⟨[],[],[.s 7 (.mat 31 53 (.pair (.pair (.leaf 4) (.pair (.leaf 4) (.pair (.leaf 4) (.leaf 4)))) (.pair (.leaf 4) (.pair (.leaf 4) (.pair (.leaf 4) (.leaf 4))))))]⟩)]⟩ (.two (.two .no (.two (.cut ⟨⟨[],[],[]⟩,[(.norm,⟨[4,5,6,8],[],[.s 7 (.mat 31 53 (.pair (.pair (.leaf 4) (.pair (.leaf 4) (.pair (.leaf 4) (.leaf 4)))) (.pair (.leaf 4) (.pair (.leaf 4) (.pair (.leaf 4) (.leaf 4))))))]⟩)]⟩ (.two (.two .no (.two (.two .no (.two (.cut ⟨⟨[4,5,6,7,8],[],[.s 9 (.dat .bool),.s 10 (.dat (.int .i64))]⟩,[(.exit 2,⟨[4,5,6,7,8],[],[.s 9 (.dat .bool)]⟩)]⟩ (.two (.two .no (.two (.two (.cut ⟨⟨[],[],[]⟩,[(.norm,⟨[4,5,6,7,8,10],[],[.s 9 (.dat .bool)]⟩)]⟩ .no) .no) .no)) .no)) .no)) (.two .no (.two .no (.two .no (.two (.two .no (.two (.cut ⟨⟨[4,5,6,7,8,11],[],[.s 12 (.dat (.int .i64)),.l (.sl 11) (.own 53 (.pair (.pair (.leaf 4) (.pair (.leaf 4) (.pair (.leaf 4) (.leaf 4)))) (.pair (.leaf 4) (.pair (.leaf 4) (.pair (.leaf 4) (.leaf 4))))))]⟩,[(.exit 4,⟨[4,5,6,7,8,11],[],[.l (.sl 11) (.own 53 (.pair (.pair (.leaf 4) (.pair (.leaf 4) (.pair (.leaf 4) (.leaf 4)))) (.pair (.leaf 4) (.pair (.leaf 4) (.pair (.leaf 4) (.leaf 4))))))]⟩)]⟩ .no) .no)) .no)))))) .no)) .no)) .no)) .no)) .no)))))) [.slice (.slice (.pair (.pair (.leaf 4) (.pair (.leaf 4) (.pair (.leaf 4) (.leaf 4)))) (.pair (.leaf 4) (.pair (.leaf 4) (.pair (.leaf 4) (.leaf 4))))))] [.slice (.slice (.pair (.pair (.leaf 4) (.pair (.leaf 4) (.pair (.leaf 4) (.leaf 4)))) (.pair (.leaf 4) (.pair (.leaf 4) (.pair (.leaf 4) (.leaf 4)))))),.int .i64] (m)=ZFj m:=by kernel_rfl
theorem Z9z:Zk Tryz.prog ZPk.1 ZPk.2:=Zm (C:=⟨Tryz.prog,[(38,0),(40,2),(42,3),(47,1),(49,4)],[Z8c,Zdd,Z5m,Zhl,Zdh],[75,76,100048],[],[],[],[Zth]⟩) ⟨ZUi,Zoj,rOne2_k,wNeg_k,ZNs,trivial⟩ trivial trivial trivial (inl:=[]) trivial (ann:=(.two .no (.two .no (.two .no (.two .no (.two .no (.two (.two .no (.two (.cut ⟨⟨[4,5,6],[],[.s 7 (.mat 31 53 (.pair (.pair (.leaf 4) (.pair (.leaf 4) (.pair (.leaf 4) (.leaf 4)))) (.pair (.leaf 4) (.pair (.leaf 4) (.pair (.leaf 4) (.leaf 4)))))),.s 8 (.dat (.int .i64))]⟩,[(.exit 0,⟨[],[],[.s 7 (.mat 31 53 (.pair (.pair (.leaf 4) (.pair (.leaf 4) (.pair (.leaf 4) (.leaf 4)))) (.pair (.leaf 4) (.pair (.leaf 4) (.pair (.leaf 4) (.leaf 4))))))]⟩)]⟩ (.two (.two .no (.two (.cut ⟨⟨[],[],[]⟩,[(.norm,⟨[4,5,6,8],[],[.s 7 (.mat 31 53 (.pair (.pair (.leaf 4) (.pair (.leaf 4) (.pair (.leaf 4) (.leaf 4)))) (.pair (.leaf 4) (.pair (.leaf 4) (.pair (.leaf 4) (.leaf 4))))))]⟩)]⟩ (.two (.two .no (.two (.two .no (.two (.cut ⟨⟨[4,5,6,7,8],[],[.s 9 (.dat .bool),.s 10 (.dat (.int .i64))]⟩,[(.exit 2,⟨[4,5,6,7,8],[],[.s 9 (.dat .bool)]⟩)]⟩ (.two (.two .no (.two (.two (.cut ⟨⟨[],[],[]⟩,[(.norm,⟨[4,5,6,7,8,10],[],[.s 9 (.dat .bool)]⟩)]⟩ .no) .no) .no)) .no)) .no)) (.two .no (.two .no (.two .no (.two (.two .no (.two (.cut ⟨⟨[4,5,6,7,8,11],[],[.s 12 (.dat (.int .i64)),.l (.sl 11) (.own 53 (.pair (.pair (.leaf 4) (.pair (.leaf 4) (.pair (.leaf 4) (.leaf 4)))) (.pair (.leaf 4) (.pair (.leaf 4) (.pair (.leaf 4) (.leaf 4))))))]⟩,[(.exit 4,⟨[4,5,6,7,8,11],[],[.l (.sl 11) (.own 53 (.pair (.pair (.leaf 4) (.pair (.leaf 4) (.pair (.leaf 4) (.leaf 4)))) (.pair (.leaf 4) (.pair (.leaf 4) (.pair (.leaf 4) (.leaf 4))))))]⟩)]⟩ .no) .no)) .no)))))) .no)) .no)) .no)) .no)) .no))))))) Tryz.func48 (fun _ _=>by kernel_rfl) rfl (fun v vals x z ha hz=>(ZRx x).trans hz) (hq:=⟨ZEs,trivial⟩)
end Go.Eng
set_option maxRecDepth 100000
set_option maxHeartbeats 4000000
namespace Go.Eng
open Go.Proofs Go.RowKit
def Zhh:FuncId×Con:=(63,⟨[.pair (.pair (.leaf 4) (.pair (.leaf 4) (.pair (.leaf 4) (.leaf 4)))) (.pair (.leaf 4) (.pair (.leaf 4) (.pair (.leaf 4) (.leaf 4)))),.pair (.pair (.leaf 4) (.pair (.leaf 4) (.pair (.leaf 4) (.leaf 4)))) (.pair (.leaf 4) (.pair (.leaf 4) (.pair (.leaf 4) (.leaf 4))))],[.pair (.pair (.leaf 4) (.pair (.leaf 4) (.pair (.leaf 4) (.leaf 4)))) (.pair (.leaf 4) (.pair (.leaf 4) (.pair (.leaf 4) (.leaf 4))))],fun p=>ZRg p.1 p.2⟩)
theorem wAdd_i (x:(Rat×Rat×Rat×Rat)×Rat×Rat×Rat×Rat) (y:(Rat×Rat×Rat×Rat)×Rat×Rat×Rat×Rat):Zl ⟨Tryz.prog,[(38,0),(40,2),(42,3),(47,1),(49,4)],[Zde],[],[],[],[],[]⟩ [] Tryz.f63 .no [.pair (.pair (.leaf 4) (.pair (.leaf 4) (.pair (.leaf 4) (.leaf 4)))) (.pair (.leaf 4) (.pair (.leaf 4) (.pair (.leaf 4) (.leaf 4)))),.pair (.pair (.leaf 4) (.pair (.leaf 4) (.pair (.leaf 4) (.leaf 4)))) (.pair (.leaf 4) (.pair (.leaf 4) (.pair (.leaf 4) (.leaf 4))))] [.pair (.pair (.leaf 4) (.pair (.leaf 4) (.pair (.leaf 4) (.leaf 4)))) (.pair (.leaf 4) (.pair (.leaf 4) (.pair (.leaf 4) (.leaf 4))))] (x,y)=ZRg x y:=by kernel_rfl
theorem ZWt:Zk Tryz.prog Zhh.1 Zhh.2:=Zm (C:=⟨Tryz.prog,[(38,0),(40,2),(42,3),(47,1),(49,4)],[Zde],[],[],[],[],[]⟩) ⟨ZZl,trivial⟩ trivial trivial trivial (inl:=[]) trivial (ann:=.no) Tryz.func63 (fun _ _=>by kernel_rfl) rfl (fun v vals x z ha hz=>(wAdd_i x.1 x.2).trans hz)
end Go.Eng
set_option maxRecDepth 100000
set_option maxHeartbeats 4000000
namespace Go.Eng
open Go.Proofs Go.RowKit
def ZNf:FuncId×Con:=(50,⟨[.slice (.pair (.pair (.leaf 4) (.pair (.leaf 4) (.pair (.leaf 4) (.leaf 4)))) (.pair (.leaf 4) (.pair (.leaf 4) (.pair (.leaf 4) (.leaf 4))))),.slice (.pair (.pair (.leaf 4) (.pair (.leaf 4) (.pair (.leaf 4) (.leaf 4)))) (.pair (.leaf 4) (.pair (.leaf 4) (.pair (.leaf 4) (.leaf 4)))))],[.pair (.pair (.leaf 4) (.pair (.leaf 4) (.pair (.leaf 4) (.leaf 4)))) (.pair (.leaf 4) (.pair (.leaf 4) (.pair (.leaf 4) (.leaf 4))))],fun p=>Z8f p.1 p.2⟩)
theorem rDot_i (a:List ((Rat×Rat×Rat×Rat)×Rat×Rat×Rat×Rat)) (b:List ((Rat×Rat×Rat×Rat)×Rat×Rat×Rat×Rat)):Zl ⟨Tryz.prog,[(38,0),(40,2),(42,3),(47,1),(49,4)],[Z5c,Zwe,Zhh],[],[],[],[],[]⟩ [] Tryz.f50 (.two .no (.two .no (.two (.two .no (.two (.cut ⟨⟨[0,1,4,5],[],[.s 6 (.dat (.int .i64)),.l (.sl 5) (.box 53 (.dat (.pair (.pair (.leaf 4) (.pair (.leaf 4) (.pair (.leaf 4) (.leaf 4)))) (.pair (.leaf 4) (.pair (.leaf 4) (.pair (.leaf 4) (.leaf 4)))))))]⟩,[(.exit 0,⟨[4,5],[],[.l (.sl 5) (.box 53 (.dat (.pair (.pair (.leaf 4) (.pair (.leaf 4) (.pair (.leaf 4) (.leaf 4)))) (.pair (.leaf 4) (.pair (.leaf 4) (.pair (.leaf 4) (.leaf 4)))))))]⟩)]⟩ .no) .no)) .no))) [.slice (.pair (.pair (.leaf 4) (.pair (.leaf 4) (.pair (.leaf 4) (.leaf 4)))) (.pair (.leaf 4) (.pair (.leaf 4) (.pair (.leaf 4) (.leaf 4))))),.slice (.pair (.pair (.leaf 4) (.pair (.leaf 4) (.pair (.leaf 4) (.leaf 4)))) (.pair (.leaf 4) (.pair (.leaf 4) (.pair (.leaf 4) (.leaf 4)))))] [.pair (.pair (.leaf 4) (.pair (.leaf 4) (.pair (.leaf 4) (.leaf 4)))) (.pair (.leaf 4) (.pair (.leaf 4) (.pair (.leaf 4) (.leaf 4))))] (a,b)=Z8f a b:=by kernel_rfl
theorem Z9o:Zk Tryz.prog ZNf.1 ZNf.2:=Zm (C:=⟨Tryz.prog,[(38,0),(40,2),(42,3),(47,1),(49,4)],[Z5c,Zwe,Zhh],[],[],[],[],[]⟩) ⟨ZGj,Zan,ZWt,trivial⟩ trivial trivial trivial (inl:=[]) trivial (ann:=(.two .no (.two .no (.two (.two .no (.two (.cut ⟨⟨[0,1,4,5],[],[.s 6 (.dat (.int .i64)),.l (.sl 5) (.box 53 (.dat (.pair (.pair (.leaf 4) (.pair (.leaf 4) (.pair (.leaf 4) (.leaf 4)))) (.pair (.leaf 4) (.pair (.leaf 4) (.pair (.leaf 4) (.leaf 4)))))))]⟩,[(.exit 0,⟨[4,5],[],[.l (.sl 5) (.box 53 (.dat (.pair (.pair (.leaf 4) (.pair (.leaf 4) (.pair (.leaf 4) (.leaf 4)))) (.pair (.leaf 4) (.pair (.leaf 4) (.pair (.leaf 4) (.leaf 4)))))))]⟩)]⟩ .no) .no)) .no)))) Tryz.func50 (fun _ _=>by kernel_rfl) rfl (fun v vals x z ha hz=>(rDot_i x.1 x.2).trans hz)
end Go.Eng
set_option maxRecDepth 100000
set_option maxHeartbeats 4000000
namespace Go.Eng
open Go.Proofs Go.RowKit
def ZRh:FuncId×Con:=(11,⟨[.slice (.slice (.pair (.pair (.leaf 4) (.pair (.leaf 4) (.pair (.leaf 4) (.leaf 4)))) (.pair (.leaf 4) (.pair (.leaf 4) (.pair (.leaf 4) (.leaf 4)))))),.slice (.pair (.pair (.leaf 4) (.pair (.leaf 4) (.pair (.leaf 4) (.leaf 4)))) (.pair (.leaf 4) (.pair (.leaf 4) (.pair (.leaf 4) (.leaf 4)))))],[.bool,.slice (.pair (.pair (.leaf 4) (.pair (.leaf 4) (.pair (.leaf 4) (.leaf 4)))) (.pair (.leaf 4) (.pair (.leaf 4) (.pair (.leaf 4) (.leaf 4))))),.int .i64],fun p=>ZOd p.1 p.2⟩)
theorem Zoz (m:List (List ((Rat×Rat×Rat×Rat)×Rat×Rat×Rat×Rat))) (c:List ((Rat×Rat×Rat×Rat)×Rat×Rat×Rat×Rat)):Zl ⟨Tryz.prog,[(38,0),(40,2),(42,3),(47,1),(49,4)],[Z8c,Zdd,ZPk,Zad,ZNf],[],[],[],[],[]⟩ [] Tryz.f11 (.two .no (.two (.two (.cut ⟨⟨[],[],[]⟩,[(.norm,⟨[0,1],[],[.s 19 (.dat .bool)]⟩)]⟩ .no) .no) (.two .no (.two (.two .no (.two (.cut ⟨⟨[1,7],[],[.s 9 (.dat (.int .i64))]⟩,[(.exit 0,⟨[],[],[]⟩),(.ret,⟨[],[],[.s 1000 (.dat .bool),.s 1001 (.dat (.slice (.pair (.pair (.leaf 4) (.pair (.leaf 4) (.pair (.leaf 4) (.leaf 4)))) (.pair (.leaf 4) (.pair (.leaf 4) (.pair (.leaf 4) (.leaf 4))))))),.s 1002 (.dat (.int .i64))]⟩)]⟩ .no) .no)) .no)))) [.slice (.slice (.pair (.pair (.leaf 4) (.pair (.leaf 4) (.pair (.leaf 4) (.leaf 4)))) (.pair (.leaf 4) (.pair (.leaf 4) (.pair (.leaf 4) (.leaf 4)))))),.slice (.pair (.pair (.leaf 4) (.pair (.leaf 4) (.pair (.leaf 4) (.leaf 4)))) (.pair (.leaf 4) (.pair (.leaf 4) (.pair (.leaf 4) (.leaf 4)))))] [.bool,.slice (.pair (.pair (.leaf 4) (.pair (.leaf 4) (.pair (.leaf 4) (.leaf 4)))) (.pair (.leaf 4) (.pair (.leaf 4) (.pair (.leaf 4) (.leaf 4))))),.int .i64] (m,c)=ZOd m c:=by kernel_rfl
theorem Z3t:Zk Tryz.prog ZRh.1 ZRh.2:=Zm (C:=⟨Tryz.prog,[(38,0),(40,2),(42,3),(47,1),(49,4)],[Z8c,Zdd,ZPk,Zad,ZNf],[],[],[],[],[]⟩) ⟨ZUi,Zoj,Z9z,Zlj,Z9o,trivial⟩ trivial trivial trivial (inl:=[]) trivial (ann:=(.two .no (.two (.two (.cut ⟨⟨[],[],[]⟩,[(.norm,⟨[0,1],[],[.s 19 (.dat .bool)]⟩)]⟩ .no) .no) (.two .no (.two (.two .no (.two (.cut ⟨⟨[1,7],[],[.s 9 (.dat (.int .i64))]⟩,[(.exit 0,⟨[],[],[]⟩),(.ret,⟨[],[],[.s 1000 (.dat .bool),.s 1001 (.dat (.slice (.pair (.pair (.leaf 4) (.pair (.leaf 4) (.pair (.leaf 4) (.leaf 4)))) (.pair (.leaf 4) (.pair (.leaf 4) (.pair (.leaf 4) (.leaf 4))))))),.s 1002 (.dat (.int .i64))]⟩)]⟩ .no) .no)) .no))))) Tryz.func11 (fun _ _=>by kernel_rfl) rfl (fun v vals x z ha hz=>(Zoz x.1 x.2).trans hz)
end Go.Eng
set_option maxRecDepth 100000
set_option maxHeartbeats 4000000
namespace Go.Eng
open Go.Proofs Go.RowKit
def ZFm:FuncId×Con:=(67,⟨[.slice (.slice (.leaf 3)),.slice (.slice (.leaf 3))],[.slice (.slice (.leaf 3))],fun p=>Z3j p.1 p.2⟩)
theorem Zyw (m:List (List Rat)) (b:List (List Rat)):Zl ⟨Tryz.prog,[(38,0),(40,2),(42,3),(47,1),(49,4)],[],[8],[Z3d],[],[],[]⟩ [(101,Tryz.f101,.two .no (.two .no (.two (.two .no (.two (.cut ⟨⟨[3,9,10],[],[.s 11 (.dat (.int .i64)),.l (.sl 3) (.mat 30 42 (.leaf 3))]⟩,[(.exit 0,⟨[3],[],[.l (.sl 3) (.mat 30 42 (.leaf 3))]⟩)]⟩ .no) .no)) .no)))] Tryz.f67 (.two .no (.two .no (.two (.two .no (.two (.cut ⟨⟨[1,5,10],[],[.s 11 (.dat (.int .i64)),.l (.sl 5) (.mat 30 42 (.leaf 3))]⟩,[(.exit 0,⟨[5],[],[.l (.sl 5) (.mat 30 42 (.leaf 3))]⟩)]⟩ .no) .no)) .no))) [.slice (.slice (.leaf 3)),.slice (.slice (.leaf 3))] [.slice (.slice (.leaf 3))] (m,b)=Z3j m b:=by kernel_rfl
theorem Zpv:Zk Tryz.prog ZFm.1 ZFm.2:=Zm (C:=⟨Tryz.prog,[(38,0),(40,2),(42,3),(47,1),(49,4)],[],[8],[Z3d],[],[],[]⟩) trivial ⟨Zxk,trivial⟩ trivial trivial (inl:=[(101,Tryz.f101,.two .no (.two .no (.two (.two .no (.two (.cut ⟨⟨[3,9,10],[],[.s 11 (.dat (.int .i64)),.l (.sl 3) (.mat 30 42 (.leaf 3))]⟩,[(.exit 0,⟨[3],[],[.l (.sl 3) (.mat 30 42 (.leaf 3))]⟩)]⟩ .no) .no)) .no)))]) ⟨⟨Tryz.func101,fun _ _=>by kernel_rfl⟩,trivial⟩ (ann:=(.two .no (.two .no (.two (.two .no (.two (.cut ⟨⟨[1,5,10],[],[.s 11 (.dat (.int .i64)),.l (.sl 5) (.mat 30 42 (.leaf 3))]⟩,[(.exit 0,⟨[5],[],[.l (.sl 5) (.mat 30 42 (.leaf 3))]⟩)]⟩ .no) .no)) .no)))) Tryz.func67 (fun _ _=>by kernel_rfl) rfl (fun v vals x z ha hz=>(Zyw x.1 x.2).trans hz)
end Go.Eng
set_option maxRecDepth 100000
set_option maxHeartbeats 4000000
namespace Go.Eng
open Go.Proofs Go.RowKit
def ZCm:FuncId×Con:=(99,⟨[.slice (.leaf 3)],[.slice (.slice (.leaf 3))],fun p=>Zhk p⟩)
theorem Zgz (b:List Rat):Zl ⟨Tryz.prog,[(38,0),(40,2),(42,3),(47,1),(49,4)],[],[8],[],[],[],[]⟩ [] Tryz.f99 (.two .no (.two .no (.two (.two .no (.two (.cut ⟨⟨[3,9,10],[],[.s 11 (.dat (.int .i64)),.l (.sl 3) (.mat 30 42 (.leaf 3))]⟩,[(.exit 0,⟨[3],[],[.l (.sl 3) (.mat 30 42 (.leaf 3))]⟩)]⟩ .no) .no)) .no))) [.slice (.leaf 3)] [.slice (.slice (.leaf 3))] (b)=Zhk b:=by kernel_rfl
theorem Zlx:Zk Tryz.prog ZCm.1 ZCm.2:=Zm (C:=⟨Tryz.prog,[(38,0),(40,2),(42,3),(47,1),(49,4)],[],[8],[],[],[],[]⟩) trivial trivial trivial trivial (inl:=[]) trivial (ann:=(.two .no (.two .no (.two (.two .no (.two (.cut ⟨⟨[3,9,10],[],[.s 11 (.dat (.int .i64)),.l (.sl 3) (.mat 30 42 (.leaf 3))]⟩,[(.exit 0,⟨[3],[],[.l (.sl 3) (.mat 30 42 (.leaf 3))]⟩)]⟩ .no) .no)) .no)))) Tryz.func99 (fun _ _=>by kernel_rfl) rfl (fun v vals x z ha hz=>(Zgz x).trans hz)
end Go.Eng
set_option maxRecDepth 100000
set_option maxHeartbeats 4000000
namespace Go.Eng
open Go.Proofs Go.RowKit
def Zhm:FuncId×Con:=(51,⟨[.slice (.slice (.leaf 3)),.slice (.leaf 3)],[.slice (.leaf 3),.int .i64],fun p=>Zfg p.1 p.2⟩)
theorem Any_i (m:List (List Rat)) (b:List Rat):Zl ⟨Tryz.prog,[(38,0),(40,2),(42,3),(47,1),(49,4)],[ZRc,ZSb,Zvf,ZFm,Zwc,ZCm],[],[Z9f],[],[],[]⟩ [(74,Tryz.f74,.no)] Tryz.f51 (.two .no (.two (.two (.cut ⟨⟨[],[],[]⟩,[(.norm,⟨[0,1],[],[.s 23 (.dat .bool)]⟩)]⟩ .no) .no) (.two .no (.two .no (.two (.two .no (.two (.cut ⟨⟨[],[],[]⟩,[(.norm,⟨[6,7,8],[],[.s 47 (.dat .bool)]⟩)]⟩ .no) .no)) (.two .no (.two (.two .no (.two (.cut ⟨⟨[6,7,11,50,51],[],[.s 52 (.dat (.int .i64)),.l (.sl 11) (.own 42 (.leaf 3))]⟩,[(.exit 0,⟨[11],[],[.l (.sl 11) (.own 42 (.leaf 3))]⟩)]⟩ .no) .no)) .no))))))) [.slice (.slice (.leaf 3)),.slice (.leaf 3)] [.slice (.leaf 3),.int .i64] (m,b)=Zfg m b:=by kernel_rfl
theorem Any_k:Zk Tryz.prog Zhm.1 Zhm.2:=Zm (C:=⟨Tryz.prog,[(38,0),(40,2),(42,3),(47,1),(49,4)],[ZRc,ZSb,Zvf,ZFm,Zwc,ZCm],[],[Z9f],[],[],[]⟩) ⟨Z6i,Zng,Z1n,Zpv,Zli,Zlx,trivial⟩ ⟨Z6o,trivial⟩ trivial trivial (inl:=[(74,Tryz.f74,.no)]) ⟨⟨Tryz.func74,fun _ _=>by kernel_rfl⟩,trivial⟩ (ann:=(.two .no (.two (.two (.cut ⟨⟨[],[],[]⟩,[(.norm,⟨[0,1],[],[.s 23 (.dat .bool)]⟩)]⟩ .no) .no) (.two .no (.two .no (.two (.two .no (.two (.cut ⟨⟨[],[],[]⟩,[(.norm,⟨[6,7,8],[],[.s 47 (.dat .bool)]⟩)]⟩ .no) .no)) (.two .no (.two (.two .no (.two (.cut ⟨⟨[6,7,11,50,51],[],[.s 52 (.dat (.int .i64)),.l (.sl 11) (.own 42 (.leaf 3))]⟩,[(.exit 0,⟨[11],[],[.l (.sl 11) (.own 42 (.leaf 3))]⟩)]⟩ .no) .no)) .no)))))))) Tryz.func51 (fun _ _=>by kernel_rfl) rfl (fun v vals x z ha hz=>(Any_i x.1 x.2).trans hz)
end Go.Eng
set_option maxRecDepth 100000
set_option maxHeartbeats 4000000
namespace Go.Eng
open Go.Proofs Go.RowKit
def Zbm:FuncId×Con:=(107,⟨[.leaf 3],[.leaf 3],fun p=>Zom p⟩)
theorem ZkA (x:Rat):Zl ⟨Tryz.prog,[(38,0),(40,2),(42,3),(47,1),(49,4)],[],[],[],[],[],[]⟩ [] Tryz.f107 .no [.leaf 3] [.leaf 3] (x)=Zom x:=by kernel_rfl
theorem ZVw:Zk Tryz.prog Zbm.1 Zbm.2:=Zm (C:=⟨Tryz.prog,[(38,0),(40,2),(42,3),(47,1),(49,4)],[],[],[],[],[],[]⟩) trivial trivial trivial trivial (inl:=[]) trivial (ann:=.no) Tryz.func107 (fun _ _=>by kernel_rfl) rfl (fun v vals x z ha hz=>(ZkA x).trans hz)
end Go.Eng
set_option maxRecDepth 100000
set_option maxHeartbeats 4000000
namespace Go.Eng
open Go.Proofs Go.RowKit
def Zpk:FuncId×Con:=(70,⟨[.slice (.slice (.leaf 3)),.slice (.slice (.leaf 3))],[.slice (.slice (.leaf 3))],fun p=>Znj p.1 p.2⟩)
theorem Zsu (a:List (List Rat)) (b:List (List Rat)):Zl ⟨Tryz.prog,[(38,0),(40,2),(42,3),(47,1),(49,4)],[ZSb,Zid,Zbm],[12,15],[],[],[],[]⟩ [(71,Tryz.f71,.cut ⟨⟨[],[],[]⟩,[(.ret,⟨[],[],[.s 1000 (.dat (.slice (.slice (.leaf 3))))]⟩)]⟩ (.two .no (.two .no (.two (.two .no (.two (.cut ⟨⟨[1,5,13,14],[],[.s 15 (.dat (.int .i64)),.l (.sl 5) (.mat 30 42 (.leaf 3))]⟩,[(.exit 0,⟨[5],[],[.l (.sl 5) (.mat 30 42 (.leaf 3))]⟩)]⟩ (.two (.two .no (.two .no (.two (.two (.two .no (.two .no (.two (.cut ⟨⟨[1,5,13,14,15,19,20],[],[.s 21 (.dat (.int .i64)),.l (.sl 5) (.mat 30 42 (.leaf 3))]⟩,[(.exit 2,⟨[1,5,13,14,15],[],[.l (.sl 5) (.mat 30 42 (.leaf 3))]⟩)]⟩ .no) .no))) .no) .no))) .no)) .no)) .no))))] Tryz.f70 (.two .no (.two .no (.two .no (.two (.two .no (.two (.cut ⟨⟨[5,6,16,17],[],[.s 18 (.dat (.int .i64)),.l (.sl 6) (.mat 30 42 (.leaf 3))]⟩,[(.exit 0,⟨[6],[],[.l (.sl 6) (.mat 30 42 (.leaf 3))]⟩)]⟩ (.two (.two .no (.two .no (.two (.two (.two .no (.two .no (.two (.cut ⟨⟨[5,6,7,8,16,17,18,23,24],[],[.s 25 (.dat (.int .i64)),.l (.sl 6) (.mat 30 42 (.leaf 3))]⟩,[(.exit 2,⟨[5,6,16,17,18],[],[.l (.sl 6) (.mat 30 42 (.leaf 3))]⟩)]⟩ .no) .no))) .no) .no))) .no)) .no)) .no)))) [.slice (.slice (.leaf 3)),.slice (.slice (.leaf 3))] [.slice (.slice (.leaf 3))] (a,b)=Znj a b:=by kernel_rfl
theorem ZPy:Zk Tryz.prog Zpk.1 Zpk.2:=Zm (C:=⟨Tryz.prog,[(38,0),(40,2),(42,3),(47,1),(49,4)],[ZSb,Zid,Zbm],[12,15],[],[],[],[]⟩) ⟨Zng,Z7i,ZVw,trivial⟩ trivial trivial trivial (inl:=[(71,Tryz.f71,.cut ⟨⟨[],[],[]⟩,[(.ret,⟨[],[],[.s 1000 (.dat (.slice (.slice (.leaf 3))))]⟩)]⟩ (.two .no (.two .no (.two (.two .no (.two (.cut ⟨⟨[1,5,13,14],[],[.s 15 (.dat (.int .i64)),.l (.sl 5) (.mat 30 42 (.leaf 3))]⟩,[(.exit 0,⟨[5],[],[.l (.sl 5) (.mat 30 42 (.leaf 3))]⟩)]⟩ (.two (.two .no (.two .no (.two (.two (.two .no (.two .no (.two (.cut ⟨⟨[1,5,13,14,15,19,20],[],[.s 21 (.dat (.int .i64)),.l (.sl 5) (.mat 30 42 (.leaf 3))]⟩,[(.exit 2,⟨[1,5,13,14,15],[],[.l (.sl 5) (.mat 30 42 (.leaf 3))]⟩)]⟩ .no) .no))) .no) .no))) .no)) .no)) .no))))]) ⟨⟨Tryz.func71,fun _ _=>by kernel_rfl⟩,trivial⟩ (ann:=(.two .no (.two .no (.two .no (.two (.two .no (.two (.cut ⟨⟨[5,6,16,17],[],[.s 18 (.dat (.int .i64)),.l (.sl 6) (.mat 30 42 (.leaf 3))]⟩,[(.exit 0,⟨[6],[],[.l (.sl 6) (.mat 30 42 (.leaf 3))]⟩)]⟩ (.two (.two .no (.two .no (.two (.two (.two .no (.two .no (.two (.cut ⟨⟨[5,6,7,8,16,17,18,23,24],[],[.s 25 (.dat (.int .i64)),.l (.sl 6) (.mat 30 42 (.leaf 3))]⟩,[(.exit 2,⟨[5,6,16,17,18],[],[.l (.sl 6) (.mat 30 42 (.leaf 3))]⟩)]⟩ .no) .no))) .no) .no))) .no)) .no)) .no))))) Tryz.func70 (fun _ _=>by kernel_rfl) rfl (fun v vals x z ha hz=>(Zsu x.1 x.2).trans hz)
end Go.Eng
set_option maxRecDepth 100000
set_option maxHeartbeats 4000000
namespace Go.Eng
open Go.Proofs Go.RowKit
def Zbl:FuncId×Con:=(217,⟨[.leaf 3],[.leaf 3],fun p=>ZXo p⟩)
theorem qconj_i (x:Rat):Zl ⟨Tryz.prog,[(38,0),(40,2),(42,3),(47,1),(49,4)],[],[],[],[],[],[]⟩ [] Tryz.f217 .no [.leaf 3] [.leaf 3] (x)=ZXo x:=by kernel_rfl
theorem qconj_k:Zk Tryz.prog Zbl.1 Zbl.2:=Zm (C:=⟨Tryz.prog,[(38,0),(40,2),(42,3),(47,1),(49,4)],[],[],[],[],[],[]⟩) trivial trivial trivial trivial (inl:=[]) trivial (ann:=.no) Tryz.func217 (fun _ _=>by kernel_rfl) rfl (fun v vals x z ha hz=>(qconj_i x).trans hz)
end Go.Eng
set_option maxRecDepth 100000
set_option maxHeartbeats 4000000
namespace Go.Eng
open Go.Proofs Go.RowKit
def Z4k:FuncId×Con:=(72,⟨[.leaf 3],[.leaf 3],fun p=>Zok p⟩)
theorem lconj_i (x : Rat) : Zl ⟨Tryz.prog, [(38, 0), (40, 2), (42, 3), (47, 1), (49, 4)], [Zbl], [], [], [], [((42, "Conj"), 217)], []⟩ [] Tryz.f72 .no [.leaf 3] [.leaf 3] (x) = Zok x := by kernel_rfl
theorem lconj_k : Zk Tryz.prog Z4k.1 Z4k.2 := Zm (C := ⟨Tryz.prog, [(38, 0), (40, 2), (42, 3), (47, 1), (49, 4)], [Zbl], [], [], [], [((42, "Conj"), 217)], []⟩) ⟨qconj_k, trivial⟩ trivial trivial ⟨Z3z, trivial⟩ (inl := []) trivial (ann := .no) Tryz.func72 (fun _ _ => by kernel_rfl) rfl (fun v vals x z ha hz => (lconj_i x).trans hz)
end Go.Eng
set_option maxRecDepth 100000
set_option maxHeartbeats 4000000
namespace Go.Eng
open Go.Proofs Go.RowKit
def ZLm:FuncId×Con:=(52,⟨[.slice (.slice (.leaf 3)),.slice (.leaf 3)],[.slice (.slice (.leaf 3)),.slice (.leaf 3)],fun p=>ZFi p.1 p.2⟩)
theorem Zlv (m:List (List Rat)) (b:List Rat):Zl ⟨Tryz.prog,[(38,0),(40,2),(42,3),(47,1),(49,4)],[ZSb,Zpk,Z4k,Z4f],[12],[],[],[],[]⟩ [(71,Tryz.f71,.cut ⟨⟨[],[],[]⟩,[(.ret,⟨[],[],[.s 1000 (.dat (.slice (.slice (.leaf 3))))]⟩)]⟩ (.two .no (.two .no (.two (.two .no (.two (.cut ⟨⟨[1,5,13,14],[],[.s 15 (.dat (.int .i64)),.l (.sl 5) (.mat 30 42 (.leaf 3))]⟩,[(.exit 0,⟨[5],[],[.l (.sl 5) (.mat 30 42 (.leaf 3))]⟩)]⟩ (.two (.two .no (.two .no (.two (.two (.two .no (.two .no (.two (.cut ⟨⟨[1,5,13,14,15,19,20],[],[.s 21 (.dat (.int .i64)),.l (.sl 5) (.mat 30 42 (.leaf 3))]⟩,[(.exit 2,⟨[1,5,13,14,15],[],[.l (.sl 5) (.mat 30 42 (.leaf 3))]⟩)]⟩ .no) .no))) .no) .no))) .no)) .no)) .no))))] Tryz.f52 .no [.slice (.slice (.leaf 3)),.slice (.leaf 3)] [.slice (.slice (.leaf 3)),.slice (.leaf 3)] (m,b)=ZFi m b:=by kernel_rfl
theorem Zoy:Zk Tryz.prog ZLm.1 ZLm.2:=Zm (C:=⟨Tryz.prog,[(38,0),(40,2),(42,3),(47,1),(49,4)],[ZSb,Zpk,Z4k,Z4f],[12],[],[],[],[]⟩) ⟨Zng,ZPy,lconj_k,Zqo,trivial⟩ trivial trivial trivial (inl:=[(71,Tryz.f71,.cut ⟨⟨[],[],[]⟩,[(.ret,⟨[],[],[.s 1000 (.dat (.slice (.slice (.leaf 3))))]⟩)]⟩ (.two .no (.two .no (.two (.two .no (.two (.cut ⟨⟨[1,5,13,14],[],[.s 15 (.dat (.int .i64)),.l (.sl 5) (.mat 30 42 (.leaf 3))]⟩,[(.exit 0,⟨[5],[],[.l (.sl 5) (.mat 30 42 (.leaf 3))]⟩)]⟩ (.two (.two .no (.two .no (.two (.two (.two .no (.two .no (.two (.cut ⟨⟨[1,5,13,14,15,19,20],[],[.s 21 (.dat (.int .i64)),.l (.sl 5) (.mat 30 42 (.leaf 3))]⟩,[(.exit 2,⟨[1,5,13,14,15],[],[.l (.sl 5) (.mat 30 42 (.leaf 3))]⟩)]⟩ .no) .no))) .no) .no))) .no)) .no)) .no))))]) ⟨⟨Tryz.func71,fun _ _=>by kernel_rfl⟩,trivial⟩ (ann:=.no) Tryz.func52 (fun _ _=>by kernel_rfl) rfl (fun v vals x z ha hz=>(Zlv x.1 x.2).trans hz)
end Go.Eng
set_option maxRecDepth 100000
set_option maxHeartbeats 4000000
namespace Go.Eng
open Go.Proofs Go.RowKit
def Zrl:FuncId×Con:=(12,⟨[.slice (.slice (.leaf 3)),.slice (.leaf 3),.slice (.leaf 3)],[.leaf 3,.int .i64],fun p=>Z7d p.1 p.2.1 p.2.2⟩)
theorem Zwu (m:List (List Rat)) (b:List Rat) (c:List Rat):Zl ⟨Tryz.prog,[(38,0),(40,2),(42,3),(47,1),(49,4)],[Zoi,ZRc,ZSb,Zid,Zhm,ZLm],[],[],[],[],[]⟩ [] Tryz.f12 (.two .no (.two .no (.two (.two (.cut ⟨⟨[],[],[]⟩,[(.norm,⟨[0,1,2,6,8],[],[.s 30 (.dat .bool)]⟩)]⟩ .no) .no) .no))) [.slice (.slice (.leaf 3)),.slice (.leaf 3),.slice (.leaf 3)] [.leaf 3,.int .i64] (m,b,c)=Z7d m b c:=by kernel_rfl
theorem ZSv:Zk Tryz.prog Zrl.1 Zrl.2:=Zm (C:=⟨Tryz.prog,[(38,0),(40,2),(42,3),(47,1),(49,4)],[Zoi,ZRc,ZSb,Zid,Zhm,ZLm],[],[],[],[],[]⟩) ⟨ZRt,Z6i,Zng,Z7i,Any_k,Zoy,trivial⟩ trivial trivial trivial (inl:=[]) trivial (ann:=(.two .no (.two .no (.two (.two (.cut ⟨⟨[],[],[]⟩,[(.norm,⟨[0,1,2,6,8],[],[.s 30 (.dat .bool)]⟩)]⟩ .no) .no) .no)))) Tryz.func12 (fun _ _=>by kernel_rfl) rfl (fun v vals x z ha hz=>(Zwu x.1 x.2.1 x.2.2).trans hz)
end Go.Eng
set_option maxRecDepth 100000
set_option maxHeartbeats 4000000
namespace Go.Eng
open Go.Proofs Go.RowKit
def Zcm:FuncId×Con:=(25,⟨[.slice (.slice (.pair (.pair (.leaf 4) (.pair (.leaf 4) (.pair (.leaf 4) (.leaf 4)))) (.pair (.leaf 4) (.pair (.leaf 4) (.pair (.leaf 4) (.leaf 4))))))],[.slice (.slice (.pair (.pair (.leaf 4) (.pair (.leaf 4) (.pair (.leaf 4) (.leaf 4)))) (.pair (.leaf 4) (.pair (.leaf 4) (.pair (.leaf 4) (.leaf 4)))))),.int .i64],fun p=>Z8j p⟩)
theorem Zcx (m:List (List ((Rat×Rat×Rat×Rat)×Rat×Rat×Rat×Rat))):Zl ⟨Tryz.prog,[(38,0),(40,2),(42,3),(47,1),(49,4)],[Z8c,Zdd,Z2h],[],[],[],[],[Zth]⟩ [] Tryz.f25 (.two .no (.two .no (.two .no (.two (.two .no (.two (.cut ⟨⟨[0,4],[],[.s 5 (.dat (.int .i64)),.l (.sl 4) (.mat 31 53 (.pair (.pair (.leaf 4) (.pair (.leaf 4) (.pair (.leaf 4) (.leaf 4)))) (.pair (.leaf 4) (.pair (.leaf 4) (.pair (.leaf 4) (.leaf 4))))))]⟩,[(.exit 0,⟨[4],[],[.l (.sl 4) (.mat 31 53 (.pair (.pair (.leaf 4) (.pair (.leaf 4) (.pair (.leaf 4) (.leaf 4)))) (.pair (.leaf 4) (.pair (.leaf 4) (.pair (.leaf 4) (.leaf 4))))))]⟩)]⟩ (.two (.two .no (.two (.two (.two .no (.two (.cut ⟨⟨[0,4,5],[],[.s 6 (.dat (.int .i64)),.l (.sl 4) (.mat 31 53 (.pair (.pair (.leaf 4) (.pair (.leaf 4) (.pair (.leaf 4) (.leaf 4)))) (.pair (.leaf 4) (.pair (.leaf 4) (.pair (.leaf 4) (.leaf 4))))))]⟩,[(.exit 2,⟨[0,4,5],[],[.l (.sl 4) (.mat 31 53 (.pair (.pair (.leaf 4) (.pair (.leaf 4) (.pair (.leaf 4) (.leaf 4)))) (.pair (.leaf 4) (.pair (.leaf 4) (.pair (.leaf 4) (.leaf 4))))))]⟩)]⟩ .no) .no)) .no) .no)) .no)) .no)) .no)))) [.slice (.slice (.pair (.pair (.leaf 4) (.pair (.leaf 4) (.pair (.leaf 4) (.leaf 4)))) (.pair (.leaf 4) (.pair (.leaf 4) (.pair (.leaf 4) (.leaf 4))))))] [.slice (.slice (.pair (.pair (.leaf 4) (.pair (.leaf 4) (.pair (.leaf 4) (.leaf 4)))) (.pair (.leaf 4) (.pair (.leaf 4) (.pair (.leaf 4) (.leaf 4)))))),.int .i64] (m)=Z8j m:=by kernel_rfl
theorem Z3v:Zk Tryz.prog Zcm.1 Zcm.2:=Zm (C:=⟨Tryz.prog,[(38,0),(40,2),(42,3),(47,1),(49,4)],[Z8c,Zdd,Z2h],[],[],[],[],[Zth]⟩) ⟨ZUi,Zoj,Ztq,trivial⟩ trivial trivial trivial (inl:=[]) trivial (ann:=(.two .no (.two .no (.two .no (.two (.two .no (.two (.cut ⟨⟨[0,4],[],[.s 5 (.dat (.int .i64)),.l (.sl 4) (.mat 31 53 (.pair (.pair (.leaf 4) (.pair (.leaf 4) (.pair (.leaf 4) (.leaf 4)))) (.pair (.leaf 4) (.pair (.leaf 4) (.pair (.leaf 4) (.leaf 4))))))]⟩,[(.exit 0,⟨[4],[],[.l (.sl 4) (.mat 31 53 (.pair (.pair (.leaf 4) (.pair (.leaf 4) (.pair (.leaf 4) (.leaf 4)))) (.pair (.leaf 4) (.pair (.leaf 4) (.pair (.leaf 4) (.leaf 4))))))]⟩)]⟩ (.two (.two .no (.two (.two (.two .no (.two (.cut ⟨⟨[0,4,5],[],[.s 6 (.dat (.int .i64)),.l (.sl 4) (.mat 31 53 (.pair (.pair (.leaf 4) (.pair (.leaf 4) (.pair (.leaf 4) (.leaf 4)))) (.pair (.leaf 4) (.pair (.leaf 4) (.pair (.leaf 4) (.leaf 4))))))]⟩,[(.exit 2,⟨[0,4,5],[],[.l (.sl 4) (.mat 31 53 (.pair (.pair (.leaf 4) (.pair (.leaf 4) (.pair (.leaf 4) (.leaf 4)))) (.pair (.leaf 4) (.pair (.leaf 4) (.pair (.leaf 4) (.leaf 4))))))]⟩)]⟩ .no) .no)) .no) .no)) .no)) .no)) .no))))) Tryz.func25 (fun _ _=>by kernel_rfl) rfl (fun v vals x z ha hz=>(Zcx x).trans hz) (hq:=⟨ZEs,trivial⟩)
end Go.Eng
set_option maxRecDepth 100000
set_option maxHeartbeats 4000000
namespace Go.Eng
open Go.Proofs Go.RowKit
def Zmn:FuncId×Con:=(66,⟨[.slice (.slice (.pair (.pair (.leaf 4) (.pair (.leaf 4) (.pair (.leaf 4) (.leaf 4)))) (.pair (.leaf 4) (.pair (.leaf 4) (.pair (.leaf 4) (.leaf 4)))))),.slice (.pair (.pair (.leaf 4) (.pair (.leaf 4) (.pair (.leaf 4) (.leaf 4)))) (.pair (.leaf 4) (.pair (.leaf 4) (.pair (.leaf 4) (.leaf 4)))))],[.slice (.pair (.pair (.leaf 4) (.pair (.leaf 4) (.pair (.leaf 4) (.leaf 4)))) (.pair (.leaf 4) (.pair (.leaf 4) (.pair (.leaf 4) (.leaf 4))))),.int .i64],fun p=>Z5d p.1 p.2⟩)
theorem rAny_i (m:List (List ((Rat×Rat×Rat×Rat)×Rat×Rat×Rat×Rat))) (b:List ((Rat×Rat×Rat×Rat)×Rat×Rat×Rat×Rat)):Zl ⟨Tryz.prog,[(38,0),(40,2),(42,3),(47,1),(49,4)],[Z8c,Zdd,Zad,Z5c,Zdh],[46,47],[],[],[],[]⟩ [] Tryz.f66 (.two .no (.two (.two (.cut ⟨⟨[],[],[]⟩,[(.norm,⟨[0,1],[],[.s 24 (.dat .bool)]⟩)]⟩ .no) .no) (.two .no (.two .no (.two (.two .no (.two (.cut ⟨⟨[0,1,6],[],[.s 7 (.mat 31 53 (.pair (.pair (.leaf 4) (.pair (.leaf 4) (.pair (.leaf 4) (.leaf 4)))) (.pair (.leaf 4) (.pair (.leaf 4) (.pair (.leaf 4) (.leaf 4)))))),.s 8 (.dat (.int .i64))]⟩,[(.exit 0,⟨[6],[],[.s 7 (.mat 31 53 (.pair (.pair (.leaf 4) (.pair (.leaf 4) (.pair (.leaf 4) (.leaf 4)))) (.pair (.leaf 4) (.pair (.leaf 4) (.pair (.leaf 4) (.leaf 4))))))]⟩)]⟩ .no) .no)) (.two .no (.two (.two .no (.two (.cut ⟨⟨[6,9,10],[],[.s 11 (.dat (.int .i64))]⟩,[(.exit 2,⟨[6,9,10],[],[]⟩),(.ret,⟨[],[],[.s 1000 (.dat (.slice (.pair (.pair (.leaf 4) (.pair (.leaf 4) (.pair (.leaf 4) (.leaf 4)))) (.pair (.leaf 4) (.pair (.leaf 4) (.pair (.leaf 4) (.leaf 4))))))),.s 1001 (.dat (.int .i64))]⟩)]⟩ .no) .no)) (.two .no (.two (.two .no (.two (.cut ⟨⟨[6,9,10],[],[.s 12 (.own 53 (.pair (.pair (.leaf 4) (.pair (.leaf 4) (.pair (.leaf 4) (.leaf 4)))) (.pair (.leaf 4) (.pair (.leaf 4) (.pair (.leaf 4) (.leaf 4)))))),.s 13 (.dat (.int .i64))]⟩,[(.exit 4,⟨[6,9,10],[],[.s 12 (.own 53 (.pair (.pair (.leaf 4) (.pair (.leaf 4) (.pair (.leaf 4) (.leaf 4)))) (.pair (.leaf 4) (.pair (.leaf 4) (.pair (.leaf 4) (.leaf 4))))))]⟩)]⟩ .no) .no)) (.two (.two .no (.two (.cut ⟨⟨[6,9,10,12],[],[.s 14 (.dat (.int .i64)),.l (.sl 12) (.own 53 (.pair (.pair (.leaf 4) (.pair (.leaf 4) (.pair (.leaf 4) (.leaf 4)))) (.pair (.leaf 4) (.pair (.leaf 4) (.pair (.leaf 4) (.leaf 4))))))]⟩,[(.exit 6,⟨[12],[],[.l (.sl 12) (.own 53 (.pair (.pair (.leaf 4) (.pair (.leaf 4) (.pair (.leaf 4) (.leaf 4)))) (.pair (.leaf 4) (.pair (.leaf 4) (.pair (.leaf 4) (.leaf 4))))))]⟩)]⟩ .no) .no)) .no)))))))))) [.slice (.slice (.pair (.pair (.leaf 4) (.pair (.leaf 4) (.pair (.leaf 4) (.leaf 4)))) (.pair (.leaf 4) (.pair (.leaf 4) (.pair (.leaf 4) (.leaf 4)))))),.slice (.pair (.pair (.leaf 4) (.pair (.leaf 4) (.pair (.leaf 4) (.leaf 4)))) (.pair (.leaf 4) (.pair (.leaf 4) (.pair (.leaf 4) (.leaf 4)))))] [.slice (.pair (.pair (.leaf 4) (.pair (.leaf 4) (.pair (.leaf 4) (.leaf 4)))) (.pair (.leaf 4) (.pair (.leaf 4) (.pair (.leaf 4) (.leaf 4))))),.int .i64] (m,b)=Z5d m b:=by kernel_rfl
theorem rAny_k:Zk Tryz.prog Zmn.1 Zmn.2:=Zm (C:=⟨Tryz.prog,[(38,0),(40,2),(42,3),(47,1),(49,4)],[Z8c,Zdd,Zad,Z5c,Zdh],[46,47],[],[],[],[]⟩) ⟨ZUi,Zoj,Zlj,ZGj,ZNs,trivial⟩ trivial trivial trivial (inl:=[]) trivial (ann:=(.two .no (.two (.two (.cut ⟨⟨[],[],[]⟩,[(.norm,⟨[0,1],[],[.s 24 (.dat .bool)]⟩)]⟩ .no) .no) (.two .no (.two .no (.two (.two .no (.two (.cut ⟨⟨[0,1,6],[],[.s 7 (.mat 31 53 (.pair (.pair (.leaf 4) (.pair (.leaf 4) (.pair (.leaf 4) (.leaf 4)))) (.pair (.leaf 4) (.pair (.leaf 4) (.pair (.leaf 4) (.leaf 4)))))),.s 8 (.dat (.int .i64))]⟩,[(.exit 0,⟨[6],[],[.s 7 (.mat 31 53 (.pair (.pair (.leaf 4) (.pair (.leaf 4) (.pair (.leaf 4) (.leaf 4)))) (.pair (.leaf 4) (.pair (.leaf 4) (.pair (.leaf 4) (.leaf 4))))))]⟩)]⟩ .no) .no)) (.two .no (.two (.two .no (.two (.cut ⟨⟨[6,9,10],[],[.s 11 (.dat (.int .i64))]⟩,[(.exit 2,⟨[6,9,10],[],[]⟩),(.ret,⟨[],[],[.s 1000 (.dat (.slice (.pair (.pair (.leaf 4) (.pair (.leaf 4) (.pair (.leaf 4) (.leaf 4)))) (.pair (.leaf 4) (.pair (.leaf 4) (.pair (.leaf 4) (.leaf 4))))))),.s 1001 (.dat (.int .i64))]⟩)]⟩ .no) .no)) (.two .no (.two (.two .no (.two (.cut ⟨⟨[6,9,10],[],[.s 12 (.own 53 (.pair (.pair (.leaf 4) (.pair (.leaf 4) (.pair (.leaf 4) (.leaf 4)))) (.pair (.leaf 4) (.pair (.leaf 4) (.pair (.leaf 4) (.leaf 4)))))),.s 13 (.dat (.int .i64))]⟩,[(.exit 4,⟨[6,9,10],[],[.s 12 (.own 53 (.pair (.pair (.leaf 4) (.pair (.leaf 4) (.pair (.leaf 4) (.leaf 4)))) (.pair (.leaf 4) (.pair (.leaf 4) (.pair (.leaf 4) (.leaf 4))))))]⟩)]⟩ .no) .no)) (.two (.two .no (.two (.cut ⟨⟨[6,9,10,12],[],[.s 14 (.dat (.int .i64)),.l (.sl 12) (.own 53 (.pair (.pair (.leaf 4) (.pair (.leaf 4) (.pair (.leaf 4) (.leaf 4)))) (.pair (.leaf 4) (.pair (.leaf 4) (.pair (.leaf 4) (.leaf 4))))))]⟩,[(.exit 6,⟨[12],[],[.l (.sl 12) (.own 53 (.pair (.pair (.leaf 4) (.pair (.leaf 4) (.pair (.leaf 4) (.leaf 4)))) (.pair (.leaf 4) (.pair (.leaf 4) (.pair (.leaf 4) (.leaf 4))))))]⟩)]⟩ .no) .no)) .no))))))))))) Tryz.func66 (fun _ _=>by kernel_rfl) rfl (fun v vals x z ha hz=>(rAny_i x.1 x.2).trans hz)
end Go.Eng
set_option maxRecDepth 100000
set_option maxHeartbeats 4000000
namespace Go.Eng
open Go.Proofs Go.RowKit
def Zqn:FuncId×Con:=(77,⟨[.slice (.slice (.pair (.pair (.leaf 4) (.pair (.leaf 4) (.pair (.leaf 4) (.leaf 4)))) (.pair (.leaf 4) (.pair (.leaf 4) (.pair (.leaf 4) (.leaf 4)))))),.slice (.pair (.pair (.leaf 4) (.pair (.leaf 4) (.pair (.leaf 4) (.leaf 4)))) (.pair (.leaf 4) (.pair (.leaf 4) (.pair (.leaf 4) (.leaf 4)))))],[.slice (.pair (.pair (.leaf 4) (.pair (.leaf 4) (.pair (.leaf 4) (.leaf 4)))) (.pair (.leaf 4) (.pair (.leaf 4) (.pair (.leaf 4) (.leaf 4)))))],fun p=>Zfk p.1 p.2⟩)
theorem ZlA (m:List (List ((Rat×Rat×Rat×Rat)×Rat×Rat×Rat×Rat))) (x:List ((Rat×Rat×Rat×Rat)×Rat×Rat×Rat×Rat)):Zl ⟨Tryz.prog,[(38,0),(40,2),(42,3),(47,1),(49,4)],[ZNf],[],[],[],[],[]⟩ [] Tryz.f77 (.two .no (.two .no (.two (.two .no (.two (.cut ⟨⟨[0,1],[],[.s 5 (.own 53 (.pair (.pair (.leaf 4) (.pair (.leaf 4) (.pair (.leaf 4) (.leaf 4)))) (.pair (.leaf 4) (.pair (.leaf 4) (.pair (.leaf 4) (.leaf 4)))))),.s 6 (.dat (.int .i64))]⟩,[(.exit 0,⟨[],[],[.s 5 (.own 53 (.pair (.pair (.leaf 4) (.pair (.leaf 4) (.pair (.leaf 4) (.leaf 4)))) (.pair (.leaf 4) (.pair (.leaf 4) (.pair (.leaf 4) (.leaf 4))))))]⟩)]⟩ .no) .no)) .no))) [.slice (.slice (.pair (.pair (.leaf 4) (.pair (.leaf 4) (.pair (.leaf 4) (.leaf 4)))) (.pair (.leaf 4) (.pair (.leaf 4) (.pair (.leaf 4) (.leaf 4)))))),.slice (.pair (.pair (.leaf 4) (.pair (.leaf 4) (.pair (.leaf 4) (.leaf 4)))) (.pair (.leaf 4) (.pair (.leaf 4) (.pair (.leaf 4) (.leaf 4)))))] [.slice (.pair (.pair (.leaf 4) (.pair (.leaf 4) (.pair (.leaf 4) (.leaf 4)))) (.pair (.leaf 4) (.pair (.leaf 4) (.pair (.leaf 4) (.leaf 4)))))] (m,x)=Zfk m x:=by kernel_rfl
theorem Z3u:Zk Tryz.prog Zqn.1 Zqn.2:=Zm (C:=⟨Tryz.prog,[(38,0),(40,2),(42,3),(47,1),(49,4)],[ZNf],[],[],[],[],[]⟩) ⟨Z9o,trivial⟩ trivial trivial trivial (inl:=[]) trivial (ann:=(.two .no (.two .no (.two (.two .no (.two (.cut ⟨⟨[0,1],[],[.s 5 (.own 53 (.pair (.pair (.leaf 4) (.pair (.leaf 4) (.pair (.leaf 4) (.leaf 4)))) (.pair (.leaf 4) (.pair (.leaf 4) (.pair (.leaf 4) (.leaf 4)))))),.s 6 (.dat (.int .i64))]⟩,[(.exit 0,⟨[],[],[.s 5 (.own 53 (.pair (.pair (.leaf 4) (.pair (.leaf 4) (.pair (.leaf 4) (.leaf 4)))) (.pair (.leaf 4) (.pair (.leaf 4) (.pair (.leaf 4) (.leaf 4))))))]⟩)]⟩ .no) .no)) .no)))) Tryz.func77 (fun _ _=>by kernel_rfl) rfl (fun v vals x z ha hz=>(ZlA x.1 x.2).trans hz)
end Go.Eng
set_option maxRecDepth 100000
set_option maxHeartbeats 4000000
namespace Go.Eng
open Go.Proofs Go.RowKit
def ZMm:FuncId×Con:=(54,⟨[.slice (.slice (.pair (.pair (.leaf 4) (.pair (.leaf 4) (.pair (.leaf 4) (.leaf 4)))) (.pair (.leaf 4) (.pair (.leaf 4) (.pair (.leaf 4) (.leaf 4)))))),.slice (.pair (.pair (.leaf 4) (.pair (.leaf 4) (.pair (.leaf 4) (.leaf 4)))) (.pair (.leaf 4) (.pair (.leaf 4) (.pair (.leaf 4) (.leaf 4)))))],[.slice (.pair (.pair (.leaf 4) (.pair (.leaf 4) (.pair (.leaf 4) (.leaf 4)))) (.pair (.leaf 4) (.pair (.leaf 4) (.pair (.leaf 4) (.leaf 4)))))],fun p=>Zpj p.1 p.2⟩)
theorem ZFx (m:List (List ((Rat×Rat×Rat×Rat)×Rat×Rat×Rat×Rat))) (b:List ((Rat×Rat×Rat×Rat)×Rat×Rat×Rat×Rat)):Zl ⟨Tryz.prog,[(38,0),(40,2),(42,3),(47,1),(49,4)],[Zcm,Z5c,Zwe,Zhh,Zmn,Zqn],[62,63],[],[],[],[]⟩ [] Tryz.f54 (.two .no (.two .no (.two .no (.two (.two .no (.two (.cut ⟨⟨[0,1,5],[],[.s 7 (.mat 31 53 (.pair (.pair (.leaf 4) (.pair (.leaf 4) (.pair (.leaf 4) (.leaf 4)))) (.pair (.leaf 4) (.pair (.leaf 4) (.pair (.leaf 4) (.leaf 4)))))),.s 8 (.dat (.int .i64))]⟩,[(.exit 0,⟨[1,5],[],[.s 7 (.mat 31 53 (.pair (.pair (.leaf 4) (.pair (.leaf 4) (.pair (.leaf 4) (.leaf 4)))) (.pair (.leaf 4) (.pair (.leaf 4) (.pair (.leaf 4) (.leaf 4))))))]⟩)]⟩ (.two (.two .no (.two (.two (.two .no (.two (.two .no (.two (.cut ⟨⟨[0,1,5,7,8],[],[.s 9 (.own 53 (.pair (.pair (.leaf 4) (.pair (.leaf 4) (.pair (.leaf 4) (.leaf 4)))) (.pair (.leaf 4) (.pair (.leaf 4) (.pair (.leaf 4) (.leaf 4)))))),.s 10 (.dat (.int .i64))]⟩,[(.exit 2,⟨[0,1,5,7,8],[],[.s 9 (.own 53 (.pair (.pair (.leaf 4) (.pair (.leaf 4) (.pair (.leaf 4) (.leaf 4)))) (.pair (.leaf 4) (.pair (.leaf 4) (.pair (.leaf 4) (.leaf 4))))))]⟩)]⟩ (.two (.two .no (.two (.two (.two .no (.two (.two .no (.two (.cut ⟨⟨[0,1,5,7,8,9,10,11],[],[.s 12 (.dat (.int .i64)),.l (.sl 11) (.box 53 (.dat (.pair (.pair (.leaf 4) (.pair (.leaf 4) (.pair (.leaf 4) (.leaf 4)))) (.pair (.leaf 4) (.pair (.leaf 4) (.pair (.leaf 4) (.leaf 4)))))))]⟩,[(.exit 4,⟨[0,1,5,7,8,9,10,11],[],[.l (.sl 11) (.box 53 (.dat (.pair (.pair (.leaf 4) (.pair (.leaf 4) (.pair (.leaf 4) (.leaf 4)))) (.pair (.leaf 4) (.pair (.leaf 4) (.pair (.leaf 4) (.leaf 4)))))))]⟩)]⟩ .no) .no)) .no)) .no) .no)) .no)) .no)) .no)) .no) .no)) .no)) .no)) .no)))) [.slice (.slice (.pair (.pair (.leaf 4) (.pair (.leaf 4) (.pair (.leaf 4) (.leaf 4)))) (.pair (.leaf 4) (.pair (.leaf 4) (.pair (.leaf 4) (.leaf 4)))))),.slice (.pair (.pair (.leaf 4) (.pair (.leaf 4) (.pair (.leaf 4) (.leaf 4)))) (.pair (.leaf 4) (.pair (.leaf 4) (.pair (.leaf 4) (.leaf 4)))))] [.slice (.pair (.pair (.leaf 4) (.pair (.leaf 4) (.pair (.leaf 4) (.leaf 4)))) (.pair (.leaf 4) (.pair (.leaf 4) (.pair (.leaf 4) (.leaf 4)))))] (m,b)=Zpj m b:=by kernel_rfl
theorem ZBv:Zk Tryz.prog ZMm.1 ZMm.2:=Zm (C:=⟨Tryz.prog,[(38,0),(40,2),(42,3),(47,1),(49,4)],[Zcm,Z5c,Zwe,Zhh,Zmn,Zqn],[62,63],[],[],[],[]⟩) ⟨Z3v,ZGj,Zan,ZWt,rAny_k,Z3u,trivial⟩ trivial trivial trivial (inl:=[]) trivial (ann:=(.two .no (.two .no (.two .no (.two (.two .no (.two (.cut ⟨⟨[0,1,5],[],[.s 7 (.mat 31 53 (.pair (.pair (.leaf 4) (.pair (.leaf 4) (.pair (.leaf 4) (.leaf 4)))) (.pair (.leaf 4) (.pair (.leaf 4) (.pair (.leaf 4) (.leaf 4)))))),.s 8 (.dat (.int .i64))]⟩,[(.exit 0,⟨[1,5],[],[.s 7 (.mat 31 53 (.pair (.pair (.leaf 4) (.pair (.leaf 4) (.pair (.leaf 4) (.leaf 4)))) (.pair (.leaf 4) (.pair (.leaf 4) (.pair (.leaf 4) (.leaf 4))))))]⟩)]⟩ (.two (.two .no (.two (.two (.two .no (.two (.two .no (.two (.cut ⟨⟨[0,1,5,7,8],[],[.s 9 (.own 53 (.pair (.pair (.leaf 4) (.pair (.leaf 4) (.pair (.leaf 4) (.leaf 4)))) (.pair (.leaf 4) (.pair (.leaf 4) (.pair (.leaf 4) (.leaf 4)))))),.s 10 (.dat (.int .i64))]⟩,[(.exit 2,⟨[0,1,5,7,8],[],[.s 9 (.own 53 (.pair (.pair (.leaf 4) (.pair (.leaf 4) (.pair (.leaf 4) (.leaf 4)))) (.pair (.leaf 4) (.pair (.leaf 4) (.pair (.leaf 4) (.leaf 4))))))]⟩)]⟩ (.two (.two .no (.two (.two (.two .no (.two (.two .no (.two (.cut ⟨⟨[0,1,5,7,8,9,10,11],[],[.s 12 (.dat (.int .i64)),.l (.sl 11) (.box 53 (.dat (.pair (.pair (.leaf 4) (.pair (.leaf 4) (.pair (.leaf 4) (.leaf 4)))) (.pair (.leaf 4) (.pair (.leaf 4) (.pair (.leaf 4) (.leaf 4)))))))]⟩,[(.exit 4,⟨[0,1,5,7,8,9,10,11],[],[.l (.sl 11) (.box 53 (.dat (.pair (.pair (.leaf 4) (.pair (.leaf 4) (.pair (.leaf 4) (.leaf 4)))) (.pair (.leaf 4) (.pair (.leaf 4) (.pair (.leaf 4) (.leaf 4)))))))]⟩)]⟩ .no) .no)) .no)) .no) .no)) .no)) .no)) .no)) .no) .no)) .no)) .no)) .no))))) Tryz.func54 (fun _ _=>by kernel_rfl) rfl (fun v vals x z ha hz=>(ZFx x.1 x.2).trans hz)
end Go.Eng
set_option maxRecDepth 100000
set_option maxHeartbeats 4000000
namespace Go.Eng
open Go.Proofs Go.RowKit
def ZIk:FuncId×Con:=(13,⟨[.slice (.slice (.pair (.pair (.leaf 4) (.pair (.leaf 4) (.pair (.leaf 4) (.leaf 4)))) (.pair (.leaf 4) (.pair (.leaf 4) (.pair (.leaf 4) (.leaf 4)))))),.slice (.pair (.pair (.leaf 4) (.pair (.leaf 4) (.pair (.leaf 4) (.leaf 4)))) (.pair (.leaf 4) (.pair (.leaf 4) (.pair (.leaf 4) (.leaf 4))))),.slice (.pair (.pair (.leaf 4) (.pair (.leaf 4) (.pair (.leaf 4) (.leaf 4)))) (.pair (.leaf 4) (.pair (.leaf 4) (.pair (.leaf 4) (.leaf 4)))))],[.pair (.pair (.leaf 4) (.pair (.leaf 4) (.pair (.leaf 4) (.leaf 4)))) (.pair (.leaf 4) (.pair (.leaf 4) (.pair (.leaf 4) (.leaf 4)))),.int .i64],fun p=>ZKd p.1 p.2.1 p.2.2⟩)
theorem ZSx (m:List (List ((Rat×Rat×Rat×Rat)×Rat×Rat×Rat×Rat))) (b:List ((Rat×Rat×Rat×Rat)×Rat×Rat×Rat×Rat)) (c:List ((Rat×Rat×Rat×Rat)×Rat×Rat×Rat×Rat)):Zl ⟨Tryz.prog,[(38,0),(40,2),(42,3),(47,1),(49,4)],[ZRh,Z8c,Zdd,ZNf,Z5c,ZMm],[],[],[],[],[]⟩ [] Tryz.f13 (.two .no (.two (.two (.cut ⟨⟨[],[],[]⟩,[(.norm,⟨[0,1,2,6],[],[.s 27 (.dat .bool)]⟩)]⟩ .no) .no) .no)) [.slice (.slice (.pair (.pair (.leaf 4) (.pair (.leaf 4) (.pair (.leaf 4) (.leaf 4)))) (.pair (.leaf 4) (.pair (.leaf 4) (.pair (.leaf 4) (.leaf 4)))))),.slice (.pair (.pair (.leaf 4) (.pair (.leaf 4) (.pair (.leaf 4) (.leaf 4)))) (.pair (.leaf 4) (.pair (.leaf 4) (.pair (.leaf 4) (.leaf 4))))),.slice (.pair (.pair (.leaf 4) (.pair (.leaf 4) (.pair (.leaf 4) (.leaf 4)))) (.pair (.leaf 4) (.pair (.leaf 4) (.pair (.leaf 4) (.leaf 4)))))] [.pair (.pair (.leaf 4) (.pair (.leaf 4) (.pair (.leaf 4) (.leaf 4)))) (.pair (.leaf 4) (.pair (.leaf 4) (.pair (.leaf 4) (.leaf 4)))),.int .i64] (m,b,c)=ZKd m b c:=by kernel_rfl
theorem Zuy:Zk Tryz.prog ZIk.1 ZIk.2:=Zm (C:=⟨Tryz.prog,[(38,0),(40,2),(42,3),(47,1),(49,4)],[ZRh,Z8c,Zdd,ZNf,Z5c,ZMm],[],[],[],[],[]⟩) ⟨Z3t,ZUi,Zoj,Z9o,ZGj,ZBv,trivial⟩ trivial trivial trivial (inl:=[]) trivial (ann:=(.two .no (.two (.two (.cut ⟨⟨[],[],[]⟩,[(.norm,⟨[0,1,2,6],[],[.s 27 (.dat .bool)]⟩)]⟩ .no) .no) .no))) Tryz.func13 (fun _ _=>by kernel_rfl) rfl (fun v vals x z ha hz=>(ZSx x.1 x.2.1 x.2.2).trans hz)
end Go.Eng
set_option maxRecDepth 100000
set_option maxHeartbeats 4000000
namespace Go.Eng
open Go.Proofs Go.RowKit
theorem Z4u (m:List (List (Int×Int))) (b:List (Int×Int)) (c:List (Int×Int)):Zl ⟨Tryz.prog,[(38,0),(40,2),(42,3),(47,1),(49,4)],[ZCl,Zwl,ZDf,Ztf,Zoi,ZRh,Zrl,ZIk,Zvh],[],[],[],[],[]⟩ [] Tryz.f3 (.two .no (.two (.two (.cut ⟨⟨[],[],[]⟩,[(.norm,⟨[0,1,2],[],[.s 35 (.dat .bool)]⟩)]⟩ .no) .no) (.two .no (.two .no (.two .no (.two .no (.two .no (.two .no (.two .no (.two (.cut ⟨⟨[],[],[]⟩,[(.norm,⟨[],[],[.s 6 (.dat .bool)]⟩)]⟩ .no) .no)))))))))) [.slice (.slice (.pair (.int .i64) (.int .i64))),.slice (.pair (.int .i64) (.int .i64)),.slice (.pair (.int .i64) (.int .i64))] [.bool] (m,b,c)=Zzm m b c:=by kernel_rfl
theorem ZQz {w0:World} {v0:Zb} (hv:VIn v0 w0) {c0:List Value} {m:(List (List (Int×Int)))} (p0:Rep.rel (Zu (Zu (ZSa (Zd .i64) (Zd .i64)))) v0 c0 m) {c1:List Value} {b:(List (Int×Int))} (p1:Rep.rel (Zu (ZSa (Zd .i64) (Zd .i64))) v0 c1 b) {c2:List Value} {c:(List (Int×Int))} (p2:Rep.rel (Zu (ZSa (Zd .i64) (Zd .i64))) v0 c2 c) {z:Bool} (hm:Zzm m b c=some z):Ret Tryz.prog 3 #[(Zu (Zu (ZSa (Zd .i64) (Zd .i64)))).val c0,(Zu (ZSa (Zd .i64) (Zd .i64))).val c1,(Zu (ZSa (Zd .i64) (Zd .i64))).val c2] w0 v0 (fun y v'=>∃ r0,y=ZDd.val r0∧ZDd.rel v' r0 z):=(Z6p (C:=⟨Tryz.prog,[(38,0),(40,2),(42,3),(47,1),(49,4)],[ZCl,Zwl,ZDf,Ztf,Zoi,ZRh,Zrl,ZIk,Zvh],[],[],[],[],[]⟩) (CfOK.of ⟨few2_k,Z5x,ZYp,ZJp,ZRt,Z3t,ZSv,Zuy,is2_k,trivial⟩ trivial trivial trivial) (inl:=[]) (Zcd.of trivial) (ann:=(.two .no (.two (.two (.cut ⟨⟨[],[],[]⟩,[(.norm,⟨[0,1,2],[],[.s 35 (.dat .bool)]⟩)]⟩ .no) .no) (.two .no (.two .no (.two .no (.two .no (.two .no (.two .no (.two .no (.two (.cut ⟨⟨[],[],[]⟩,[(.norm,⟨[],[],[.s 6 (.dat .bool)]⟩)]⟩ .no) .no))))))))))) (ats:=[.slice (.slice (.pair (.int .i64) (.int .i64))),.slice (.pair (.int .i64) (.int .i64)),.slice (.pair (.int .i64) (.int .i64))]) (rts:=[.bool]) (x:=(m,b,c)) (vals:=[(Zu (Zu (ZSa (Zd .i64) (Zd .i64)))).val c0,(Zu (ZSa (Zd .i64) (Zd .i64))).val c1,(Zu (ZSa (Zd .i64) (Zd .i64))).val c2]) Tryz.func3 rfl ((Z4u m b c).trans hm) hv ⟨c0,_,rfl,p0,c1,_,rfl,p1,c2,rfl,p2⟩).mono fun y v' _ h=>h
end Go.Eng
