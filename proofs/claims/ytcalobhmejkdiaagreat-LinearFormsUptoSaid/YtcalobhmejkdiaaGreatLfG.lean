/- Lemmas towards the statement: the engine of the walks, the functions' models, laws and walks, part 7. Conditions: as each states. -/
import Derived.Test.YtcalobhmejkdiaaGreatProg
import Derived.Test.YtcalobhmejkdiaaGreatLfF
set_option linter.all false
set_option maxRecDepth 100000
namespace Go.Eng
theorem Zxy {x:Rat} {z:List UInt8} (h:ZHj x=some z):Zhp x=some z:=by
 unfold ZHj at h;split at h
 ·rename_i hh;obtain ⟨h1,h2⟩:=hh
  cases h
  unfold Zhp ZBh;have l1:=ZOj (n:=x.num.natAbs) (by omega);have l2:=ZOj (n:=x.den) (by omega);rw [if_pos (Znd h1),Za];have e0:ifb (decide (x.num<0)) (bnd (Zsc x) fun y136=>some (!(y136))) (some false)=some (decide (x.num<0)):=by
   unfold Zsc;by_cases h:x.num<0
   ·have:x≠0:=fun e=>by subst e;simp at h
    rw [decide_eq_true h,Zf,Za,decide_eq_false this];rfl
   ·rw [decide_eq_false h,Ze]
  rw [e0,Za];have e1:ifb (decide (x.num<0)) (bnd (Zwb ([45]++Z0a x.num.natAbs)) fun y80=>some (([45]:List UInt8)++Z0a x.num.natAbs)) (some (Z0a x.num.natAbs))=some ((if x.num<0 then [45] else [])++Z0a x.num.natAbs):=by
   by_cases h:x.num<0
   ·rw [decide_eq_true h,Zf,Zhe (by simp;omega),Za,if_pos h]
   ·rw [decide_eq_false h,Ze,if_neg h];rfl
  rw [e1,Za];unfold txtQ ZPb Zqd;have l3:((if x.num<0 then [45] else [])++Z0a x.num.natAbs:List UInt8).length≤4398046511105:=by
   rw [List.length_append];split <;> simp <;> omega
  generalize ((if x.num<0 then [45] else [])++Z0a x.num.natAbs:List UInt8)=s at *;rw [Za,ZYo,Za,Za,Zoq];by_cases hd:x.den=1
  ·rw [hd];simp [ifb,bnd]
  ·have:=x.den_nz;rw [decide_eq_true (by omega),Zf,Zhe (by simp;omega),Za,if_pos (Znd h2),Za,Zhe (by simp;omega),Za,Za,if_neg hd];simp
 ·cases h
end Go.Eng
set_option maxRecDepth 100000
set_option maxHeartbeats 4000000
namespace Go.Eng
open Go.Proofs Go.RowKit
noncomputable def Zjk:FuncId×Con:=(116,⟨[.leaf 4],[.str],fun p=>ZHj p⟩)
theorem rtext_i (x:Rat):Zk ⟨Tryz.prog,[(91,1),(93,4)],[ZJm,ZKf,Zef,ZWc],[],[],[],[],[]⟩ [] Tryz.f116 (.two .no (.two .no (.two (.two (.cut ⟨⟨[],[],[]⟩,[(.norm,⟨[1,3],[],[.s 13 (.dat .bool)]⟩)]⟩ .no) (.cut ⟨⟨[],[],[]⟩,[(.norm,⟨[1],[],[.s 3 (.dat .str)]⟩)]⟩ .no)) (.two (.two .no (.cut ⟨⟨[],[],[]⟩,[(.norm,⟨[],[],[.s 3 (.dat .str)]⟩)]⟩ .no)) .no)))) [.leaf 4] [.str] (x)=Zhp x:=by kernel_rfl
theorem rtext_k:Zj Tryz.prog Zjk.1 Zjk.2:=Zn (C:=⟨Tryz.prog,[(91,1),(93,4)],[ZJm,ZKf,Zef,ZWc],[],[],[],[],[]⟩) ⟨Zmw,ZXo,Z7o,Zdj,trivial⟩ trivial trivial trivial (inl:=[]) trivial (ann:=.two .no (.two .no (.two (.two (.cut ⟨⟨[],[],[]⟩,[(.norm,⟨[1,3],[],[.s 13 (.dat .bool)]⟩)]⟩ .no) (.cut ⟨⟨[],[],[]⟩,[(.norm,⟨[1],[],[.s 3 (.dat .str)]⟩)]⟩ .no)) (.two (.two .no (.cut ⟨⟨[],[],[]⟩,[(.norm,⟨[],[],[.s 3 (.dat .str)]⟩)]⟩ .no)) .no)))) Tryz.func116 (fun _ _=>by kernel_rfl) rfl fun v vals x z ha hz=>(rtext_i x).trans (Zxy hz)
end Go.Eng
set_option maxRecDepth 100000
set_option maxHeartbeats 4000000
namespace Go.Eng
open Go.Proofs Go.RowKit
noncomputable def ZFk:FuncId×Con:=(67,⟨[.leaf 3,.leaf 4],[.bool],fun p=>Zmi p.1 p.2⟩)
theorem is1_i (x:Rat) (y:Rat):Zk ⟨Tryz.prog,[(39,0),(41,2),(43,3),(91,1),(93,4)],[Zfh,Zjk],[],[],[],[],[]⟩ [] Tryz.f67 .no [.leaf 3,.leaf 4] [.bool] (x,y)=Zmi x y:=by kernel_rfl
theorem is1_k:Zj Tryz.prog ZFk.1 ZFk.2:=Zn (C:=⟨Tryz.prog,[(39,0),(41,2),(43,3),(91,1),(93,4)],[Zfh,Zjk],[],[],[],[],[]⟩) ⟨ZEq,rtext_k,trivial⟩ trivial trivial trivial (inl:=[]) trivial (ann:=.no) Tryz.func67 (fun _ _=>by kernel_rfl) rfl fun v vals x z ha hz=>(is1_i x.1 x.2).trans (hz)
end Go.Eng
set_option maxRecDepth 100000
set_option maxHeartbeats 4000000
namespace Go.Eng
open Go.Proofs Go.RowKit
noncomputable def Zbh:FuncId×Con:=(120,⟨[.pair (.leaf 4) (.pair (.leaf 4) (.pair (.leaf 4) (.leaf 4)))],[.bool],fun p=>Z4f p⟩)
theorem sZero_i (x:Rat×Rat×Rat×Rat):Zk ⟨Tryz.prog,[(39,0),(41,2),(43,3),(91,1),(93,4)],[ZKf],[],[],[],[],[]⟩ [] Tryz.f120 (.two .no (.two (.cut ⟨⟨[],[],[]⟩,[(.norm,⟨[],[],[.s 2 (.dat .bool)]⟩)]⟩ .no) .no)) [.pair (.leaf 4) (.pair (.leaf 4) (.pair (.leaf 4) (.leaf 4)))] [.bool] (x)=Z4f x:=by kernel_rfl
theorem ZFr:Zj Tryz.prog Zbh.1 Zbh.2:=Zn (C:=⟨Tryz.prog,[(39,0),(41,2),(43,3),(91,1),(93,4)],[ZKf],[],[],[],[],[]⟩) ⟨ZXo,trivial⟩ trivial trivial trivial (inl:=[]) trivial (ann:=(.two .no (.two (.cut ⟨⟨[],[],[]⟩,[(.norm,⟨[],[],[.s 2 (.dat .bool)]⟩)]⟩ .no) .no))) Tryz.func120 (fun _ _=>by kernel_rfl) rfl (fun v vals x z ha hz=>(sZero_i x).trans hz)
end Go.Eng
set_option maxRecDepth 100000
set_option maxHeartbeats 4000000
namespace Go.Eng
open Go.Proofs Go.RowKit
noncomputable def ZQd:FuncId×Con:=(76,⟨[.pair (.pair (.leaf 4) (.pair (.leaf 4) (.pair (.leaf 4) (.leaf 4)))) (.pair (.leaf 4) (.pair (.leaf 4) (.pair (.leaf 4) (.leaf 4))))],[.bool],fun p=>ZVf p⟩)
theorem wZero_i (x:(Rat×Rat×Rat×Rat)×Rat×Rat×Rat×Rat):Zk ⟨Tryz.prog,[(39,0),(41,2),(43,3),(91,1),(93,4)],[Zbh],[],[],[],[],[]⟩ [] Tryz.f76 (.two .no (.two (.cut ⟨⟨[],[],[]⟩,[(.norm,⟨[],[],[.s 2 (.dat .bool)]⟩)]⟩ .no) .no)) [.pair (.pair (.leaf 4) (.pair (.leaf 4) (.pair (.leaf 4) (.leaf 4)))) (.pair (.leaf 4) (.pair (.leaf 4) (.pair (.leaf 4) (.leaf 4))))] [.bool] (x)=ZVf x:=by kernel_rfl
theorem ZCm:Zj Tryz.prog ZQd.1 ZQd.2:=Zn (C:=⟨Tryz.prog,[(39,0),(41,2),(43,3),(91,1),(93,4)],[Zbh],[],[],[],[],[]⟩) ⟨ZFr,trivial⟩ trivial trivial trivial (inl:=[]) trivial (ann:=(.two .no (.two (.cut ⟨⟨[],[],[]⟩,[(.norm,⟨[],[],[.s 2 (.dat .bool)]⟩)]⟩ .no) .no))) Tryz.func76 (fun _ _=>by kernel_rfl) rfl (fun v vals x z ha hz=>(wZero_i x).trans hz)
theorem rneg_eq {x:Rat} (h:okQ x):Zcl x=some (-x):=by
 obtain ⟨h1,h2⟩:=h;unfold Zcl ZPb Zgb;rw [Za,if_pos ⟨Znd h1,Znd h2,x.den_nz⟩,Za];congr 1;have e:sgn (!(decide (x.num<0))) x.num.natAbs = -x.num:=by
  unfold sgn;by_cases h:x.num<0
  ·simp [h];omega
  ·simp [h];omega
 rw [e];exact Rat.mkRat_self (-x)
theorem Zuu {x z:Rat} (h:Z5b x=some z):Zcl x=some z:=by
 unfold Z5b at h;split at h
 ·rename_i hh;rw [rneg_eq hh,h]
 ·cases h
end Go.Eng
set_option maxRecDepth 100000
set_option maxHeartbeats 4000000
namespace Go.Eng
open Go.Proofs Go.RowKit
noncomputable def Z2g:FuncId×Con:=(158,⟨[.leaf 4],[.leaf 4],fun p=>Z5b p⟩)
theorem rneg_i (x:Rat):Zk ⟨Tryz.prog,[(91,1),(93,4)],[Zmc,ZWc],[],[],[],[],[]⟩ [] Tryz.f158 .no [.leaf 4] [.leaf 4] (x)=Zcl x:=by kernel_rfl
theorem ZZr:Zj Tryz.prog Z2g.1 Z2g.2:=Zn (C:=⟨Tryz.prog,[(91,1),(93,4)],[Zmc,ZWc],[],[],[],[],[]⟩) ⟨Zci,Zdj,trivial⟩ trivial trivial trivial (inl:=[]) trivial (ann:=.no) Tryz.func158 (fun _ _=>by kernel_rfl) rfl fun v vals x z ha hz=>(rneg_i x).trans (Zuu hz)
end Go.Eng
set_option maxRecDepth 100000
set_option maxHeartbeats 4000000
namespace Go.Eng
open Go.Proofs Go.RowKit
noncomputable def ZZe:FuncId×Con:=(119,⟨[.pair (.leaf 4) (.pair (.leaf 4) (.pair (.leaf 4) (.leaf 4)))],[.pair (.leaf 4) (.pair (.leaf 4) (.pair (.leaf 4) (.leaf 4)))],fun p=>Zke p⟩)
theorem sNeg_i (x:Rat×Rat×Rat×Rat):Zk ⟨Tryz.prog,[(39,0),(41,2),(43,3),(91,1),(93,4)],[Z2g],[],[],[],[],[]⟩ [] Tryz.f119 .no [.pair (.leaf 4) (.pair (.leaf 4) (.pair (.leaf 4) (.leaf 4)))] [.pair (.leaf 4) (.pair (.leaf 4) (.pair (.leaf 4) (.leaf 4)))] (x)=Zke x:=by kernel_rfl
theorem Zro:Zj Tryz.prog ZZe.1 ZZe.2:=Zn (C:=⟨Tryz.prog,[(39,0),(41,2),(43,3),(91,1),(93,4)],[Z2g],[],[],[],[],[]⟩) ⟨ZZr,trivial⟩ trivial trivial trivial (inl:=[]) trivial (ann:=.no) Tryz.func119 (fun _ _=>by kernel_rfl) rfl (fun v vals x z ha hz=>(sNeg_i x).trans hz)
end Go.Eng
set_option maxRecDepth 100000
set_option maxHeartbeats 4000000
namespace Go.Eng
open Go.Proofs Go.RowKit
noncomputable def ZGl:FuncId×Con:=(193,⟨[.leaf 1,.leaf 1],[.leaf 1],fun p=>ZRh p.1 p.2⟩)
theorem rsum_i (a:Nat) (b:Nat):Zk ⟨Tryz.prog,[(91,1),(93,4)],[Zub],[],[],[],[],[]⟩ [] Tryz.f193 (.two .no (.two .no (.two .no (.two (.two .no (.cut ⟨⟨[],[],[]⟩,[(.norm,⟨[],[],[.s 5 (.own 185 (.int .u32)),.s 6 (.dat (.int .u64))]⟩)]⟩ (.two (.cut ⟨⟨[0,1],[],[.s 5 (.own 185 (.int .u32)),.s 6 (.dat (.int .u64)),.s 7 (.dat (.int .i64))]⟩,[(.exit 0,⟨[],[],[.s 5 (.own 185 (.int .u32)),.s 6 (.dat (.int .u64))]⟩)]⟩ (.two (.two (.two (.cut ⟨⟨[],[],[]⟩,[(.norm,⟨[0,1,5,6,7],[],[.s 18 (.dat .bool)]⟩)]⟩ .no) .no) (.two (.two (.two (.two .no (.cut ⟨⟨[],[],[]⟩,[(.norm,⟨[0,1,5,7],[],[.s 6 (.dat (.int .u64))]⟩)]⟩ .no)) (.two (.two .no (.cut ⟨⟨[],[],[]⟩,[(.norm,⟨[0,1,5,7],[],[.s 6 (.dat (.int .u64))]⟩)]⟩ .no)) .no)) .no) .no)) .no)) .no))) .no)))) [.leaf 1,.leaf 1] [.leaf 1] (a,b)=Zrl a b:=by kernel_rfl
theorem rsum_k:Zj Tryz.prog ZGl.1 ZGl.2:=Zn (C:=⟨Tryz.prog,[(91,1),(93,4)],[Zub],[],[],[],[],[]⟩) ⟨Zqf,trivial⟩ trivial trivial trivial (inl:=[]) trivial (ann:=.two .no (.two .no (.two .no (.two (.two .no (.cut ⟨⟨[],[],[]⟩,[(.norm,⟨[],[],[.s 5 (.own 185 (.int .u32)),.s 6 (.dat (.int .u64))]⟩)]⟩ (.two (.cut ⟨⟨[0,1],[],[.s 5 (.own 185 (.int .u32)),.s 6 (.dat (.int .u64)),.s 7 (.dat (.int .i64))]⟩,[(.exit 0,⟨[],[],[.s 5 (.own 185 (.int .u32)),.s 6 (.dat (.int .u64))]⟩)]⟩ (.two (.two (.two (.cut ⟨⟨[],[],[]⟩,[(.norm,⟨[0,1,5,6,7],[],[.s 18 (.dat .bool)]⟩)]⟩ .no) .no) (.two (.two (.two (.two .no (.cut ⟨⟨[],[],[]⟩,[(.norm,⟨[0,1,5,7],[],[.s 6 (.dat (.int .u64))]⟩)]⟩ .no)) (.two (.two .no (.cut ⟨⟨[],[],[]⟩,[(.norm,⟨[0,1,5,7],[],[.s 6 (.dat (.int .u64))]⟩)]⟩ .no)) .no)) .no) .no)) .no)) .no))) .no)))) Tryz.func193 (fun _ _=>by kernel_rfl) rfl fun v vals x z ha hz=>(rsum_i x.1 x.2).trans (Zdu hz)
theorem radd_eq {x y:Rat} (h:smQ x) (h':smQ y):ZMj x y=some (x+y):=by
 obtain ⟨a1,a2⟩:=h;obtain ⟨b1,b2⟩:=h';unfold ZMj ZPb;have p1:=ZQb x.num.natAbs y.den;have p2:=ZQb y.num.natAbs x.den;have p3:=ZQb x.den y.den;have p4:=ZXp (x.num.natAbs*y.den) (y.num.natAbs*x.den);have hd:x.den*y.den≠0:=Nat.mul_ne_zero x.den_nz y.den_nz;have e1:Zra x.num.natAbs y.den=some (x.num.natAbs*y.den):=by unfold Zra;rw [if_pos ⟨Zrb (by omega),Zrb (by omega)⟩]
 have e2:Zra y.num.natAbs x.den=some (y.num.natAbs*x.den):=by unfold Zra;rw [if_pos ⟨Zrb (by omega),Zrb (by omega)⟩]
 have e3:Zra x.den y.den=some (x.den*y.den):=by unfold Zra;rw [if_pos ⟨Zrb (by omega),Zrb (by omega)⟩]
 have eN:((x.num.natAbs*y.den:Nat):Int)=(x.num.natAbs:Int)*y.den:=by simp
 have eM:((y.num.natAbs*x.den:Nat):Int)=(y.num.natAbs:Int)*x.den:=by simp
 have key:∀ (s:Bool) (n:Nat),bl n≤1099511627776→sgn s n=x.num*y.den+y.num*x.den→Zgb s n (x.den*y.den)=some (x+y):=by
  intro s n hn he;unfold Zgb;rw [if_pos ⟨Znd hn,Znd (by omega),hd⟩,he,← Rat.add_def']
 rw [Za,Za,e1,Za,e2,Za,e3];obtain ⟨N,hN⟩:∃ N,N=x.num.natAbs*y.den:=⟨_,rfl⟩;obtain ⟨M,hM⟩:∃ M,M=y.num.natAbs*x.den:=⟨_,rfl⟩;rw [← hN] at p1 p4 eN ⊢;rw [← hM] at p2 p4 eM ⊢;have sx:x.num*(y.den:Int)=if x.num<0 then -(N:Int) else N:=by
  split
  ·rw [eN,← Int.neg_mul];congr 1;omega
  ·rw [eN];congr 1;omega
 have sy:y.num*(x.den:Int)=if y.num<0 then -(M:Int) else M:=by
  split
  ·rw [eM,← Int.neg_mul];congr 1;omega
  ·rw [eM];congr 1;omega
 by_cases hs:(x.num<0)↔(y.num<0)
 ·have e4:ZRh N M=some (N+M):=by unfold ZRh;rw [if_pos ⟨Zrb (by omega),Zrb (by omega)⟩]
  have e5:((decide (x.num<0))==(decide (y.num<0)))=true:=by
   by_cases h:x.num<0
   ·simp [h,hs.1 h]
   ·have h2:¬ y.num<0:=fun k=>h (hs.2 k);simp [h,h2]
  rw [e5,Zf,e4,Za,Za,key _ _ (by omega) ?_,Za];rw [sx,sy];unfold sgn;by_cases h:x.num<0
  ·have h2:=hs.1 h;simp [h,h2];omega
  ·have h2:¬ y.num<0:=fun k=>h (hs.2 k);simp [h,h2]
 ·have e5:((decide (x.num<0))==(decide (y.num<0)))=false:=by
   apply beq_false_of_ne;intro h;exact hs (by by_cases k:x.num<0 <;> by_cases k2:y.num<0 <;> simp_all)
  rw [e5,Ze];unfold Zqd;rw [Za];by_cases hle:M≤N
  ·have e6:decide ((0:Int)≤Zha N M)=true:=by
    unfold Zha;rw [if_neg (by omega)];split <;> rfl
   have e4:ZYb N M=some (N-M):=by unfold ZYb;rw [if_pos ⟨Zrb (by omega),hle⟩]
   have hb:bl (N-M)≤bl N:=ZUf (by omega);rw [e6,Zf,e4,Za,Za,key _ _ (by omega) ?_,Za];rw [sx,sy];unfold sgn;by_cases h:x.num<0
   ·have h2:¬ y.num<0:=fun k=>hs ⟨fun _=>k,fun _=>h⟩;simp [h,h2];omega
   ·have h2:y.num<0:=by
     rcases Int.lt_or_le y.num 0 with k | k
     ·exact k
     ·exact absurd ⟨fun q=>absurd q h,fun q=>absurd q (by omega)⟩ hs
    simp [h,h2];omega
  ·have e6:decide ((0:Int)≤Zha N M)=false:=by
    unfold Zha;rw [if_pos (by omega)];rfl
   have e4:ZYb M N=some (M-N):=by unfold ZYb;rw [if_pos ⟨Zrb (by omega),by omega⟩]
   have hb:bl (M-N)≤bl M:=ZUf (by omega);rw [e6,Ze,e4,Za,Za,key _ _ (by omega) ?_,Za];rw [sx,sy];unfold sgn;by_cases h:x.num<0
   ·have h2:¬ y.num<0:=fun k=>hs ⟨fun _=>k,fun _=>h⟩;simp [h,h2];omega
   ·have h2:y.num<0:=by
     rcases Int.lt_or_le y.num 0 with k | k
     ·exact k
     ·exact absurd ⟨fun q=>absurd q h,fun q=>absurd q (by omega)⟩ hs
    simp [h,h2];omega
theorem ZRy {x y z:Rat} (h:Zxa x y=some z):ZMj x y=some z:=by
 unfold Zxa at h;split at h
 ·rename_i hh;rw [radd_eq hh.1 hh.2,h]
 ·cases h
end Go.Eng
set_option maxRecDepth 100000
set_option maxHeartbeats 4000000
namespace Go.Eng
open Go.Proofs Go.RowKit
noncomputable def Z0h:FuncId×Con:=(180,⟨[.leaf 4,.leaf 4],[.leaf 4],fun p=>Zxa p.1 p.2⟩)
theorem radd_i (x:Rat) (y:Rat):Zk ⟨Tryz.prog,[(91,1),(93,4)],[Zmc,Zef,ZWc,ZCd,ZMg,ZGl],[],[],[],[],[]⟩ [] Tryz.f180 .no [.leaf 4,.leaf 4] [.leaf 4] (x,y)=ZMj x y:=by kernel_rfl
theorem Zyr:Zj Tryz.prog Z0h.1 Z0h.2:=Zn (C:=⟨Tryz.prog,[(91,1),(93,4)],[Zmc,Zef,ZWc,ZCd,ZMg,ZGl],[],[],[],[],[]⟩) ⟨Zci,Z7o,Zdj,Zom,Z2q,rsum_k,trivial⟩ trivial trivial trivial (inl:=[]) trivial (ann:=.no) Tryz.func180 (fun _ _=>by kernel_rfl) rfl fun v vals x z ha hz=>(radd_i x.1 x.2).trans (ZRy hz)
end Go.Eng
set_option maxRecDepth 100000
set_option maxHeartbeats 4000000
namespace Go.Eng
open Go.Proofs Go.RowKit
noncomputable def ZMf:FuncId×Con:=(150,⟨[.pair (.leaf 4) (.pair (.leaf 4) (.pair (.leaf 4) (.leaf 4))),.pair (.leaf 4) (.pair (.leaf 4) (.pair (.leaf 4) (.leaf 4)))],[.pair (.leaf 4) (.pair (.leaf 4) (.pair (.leaf 4) (.leaf 4)))],fun p=>Zhg p.1 p.2⟩)
theorem sAdd_i (x:Rat×Rat×Rat×Rat) (y:Rat×Rat×Rat×Rat):Zk ⟨Tryz.prog,[(39,0),(41,2),(43,3),(91,1),(93,4)],[Z0h],[],[],[],[],[]⟩ [] Tryz.f150 .no [.pair (.leaf 4) (.pair (.leaf 4) (.pair (.leaf 4) (.leaf 4))),.pair (.leaf 4) (.pair (.leaf 4) (.pair (.leaf 4) (.leaf 4)))] [.pair (.leaf 4) (.pair (.leaf 4) (.pair (.leaf 4) (.leaf 4)))] (x,y)=Zhg x y:=by kernel_rfl
theorem ZYn:Zj Tryz.prog ZMf.1 ZMf.2:=Zn (C:=⟨Tryz.prog,[(39,0),(41,2),(43,3),(91,1),(93,4)],[Z0h],[],[],[],[],[]⟩) ⟨Zyr,trivial⟩ trivial trivial trivial (inl:=[]) trivial (ann:=.no) Tryz.func150 (fun _ _=>by kernel_rfl) rfl (fun v vals x z ha hz=>(sAdd_i x.1 x.2).trans hz)
end Go.Eng
set_option maxRecDepth 100000
set_option maxHeartbeats 4000000
namespace Go.Eng
open Go.Proofs Go.RowKit
noncomputable def Zei:FuncId×Con:=(148,⟨[.pair (.leaf 4) (.pair (.leaf 4) (.pair (.leaf 4) (.leaf 4))),.pair (.leaf 4) (.pair (.leaf 4) (.pair (.leaf 4) (.leaf 4)))],[.pair (.leaf 4) (.pair (.leaf 4) (.pair (.leaf 4) (.leaf 4)))],fun p=>ZYf p.1 p.2⟩)
theorem sSub_i (x:Rat×Rat×Rat×Rat) (y:Rat×Rat×Rat×Rat):Zk ⟨Tryz.prog,[(39,0),(41,2),(43,3),(91,1),(93,4)],[ZZe,ZMf],[],[],[],[],[]⟩ [] Tryz.f148 .no [.pair (.leaf 4) (.pair (.leaf 4) (.pair (.leaf 4) (.leaf 4))),.pair (.leaf 4) (.pair (.leaf 4) (.pair (.leaf 4) (.leaf 4)))] [.pair (.leaf 4) (.pair (.leaf 4) (.pair (.leaf 4) (.leaf 4)))] (x,y)=ZYf x y:=by kernel_rfl
theorem Zaq:Zj Tryz.prog Zei.1 Zei.2:=Zn (C:=⟨Tryz.prog,[(39,0),(41,2),(43,3),(91,1),(93,4)],[ZZe,ZMf],[],[],[],[],[]⟩) ⟨Zro,ZYn,trivial⟩ trivial trivial trivial (inl:=[]) trivial (ann:=.no) Tryz.func148 (fun _ _=>by kernel_rfl) rfl (fun v vals x z ha hz=>(sSub_i x.1 x.2).trans hz)
end Go.Eng
set_option maxRecDepth 100000
set_option maxHeartbeats 4000000
namespace Go.Eng
open Go.Proofs Go.RowKit
noncomputable def Z9h:FuncId×Con:=(111,⟨[.pair (.pair (.leaf 4) (.pair (.leaf 4) (.pair (.leaf 4) (.leaf 4)))) (.pair (.leaf 4) (.pair (.leaf 4) (.pair (.leaf 4) (.leaf 4)))),.pair (.pair (.leaf 4) (.pair (.leaf 4) (.pair (.leaf 4) (.leaf 4)))) (.pair (.leaf 4) (.pair (.leaf 4) (.pair (.leaf 4) (.leaf 4))))],[.pair (.pair (.leaf 4) (.pair (.leaf 4) (.pair (.leaf 4) (.leaf 4)))) (.pair (.leaf 4) (.pair (.leaf 4) (.pair (.leaf 4) (.leaf 4))))],fun p=>Zai p.1 p.2⟩)
theorem wSub_i (x:(Rat×Rat×Rat×Rat)×Rat×Rat×Rat×Rat) (y:(Rat×Rat×Rat×Rat)×Rat×Rat×Rat×Rat):Zk ⟨Tryz.prog,[(39,0),(41,2),(43,3),(91,1),(93,4)],[Zei],[],[],[],[],[]⟩ [] Tryz.f111 .no [.pair (.pair (.leaf 4) (.pair (.leaf 4) (.pair (.leaf 4) (.leaf 4)))) (.pair (.leaf 4) (.pair (.leaf 4) (.pair (.leaf 4) (.leaf 4)))),.pair (.pair (.leaf 4) (.pair (.leaf 4) (.pair (.leaf 4) (.leaf 4)))) (.pair (.leaf 4) (.pair (.leaf 4) (.pair (.leaf 4) (.leaf 4))))] [.pair (.pair (.leaf 4) (.pair (.leaf 4) (.pair (.leaf 4) (.leaf 4)))) (.pair (.leaf 4) (.pair (.leaf 4) (.pair (.leaf 4) (.leaf 4))))] (x,y)=Zai x y:=by kernel_rfl
theorem ZKp:Zj Tryz.prog Z9h.1 Z9h.2:=Zn (C:=⟨Tryz.prog,[(39,0),(41,2),(43,3),(91,1),(93,4)],[Zei],[],[],[],[],[]⟩) ⟨Zaq,trivial⟩ trivial trivial trivial (inl:=[]) trivial (ann:=.no) Tryz.func111 (fun _ _=>by kernel_rfl) rfl (fun v vals x z ha hz=>(wSub_i x.1 x.2).trans hz)
end Go.Eng
set_option maxRecDepth 100000
set_option maxHeartbeats 4000000
namespace Go.Eng
open Go.Proofs Go.RowKit
noncomputable def ZOm:FuncId×Con:=(68,⟨[.pair (.pair (.leaf 4) (.pair (.leaf 4) (.pair (.leaf 4) (.leaf 4)))) (.pair (.leaf 4) (.pair (.leaf 4) (.pair (.leaf 4) (.leaf 4)))),.pair (.pair (.leaf 4) (.pair (.leaf 4) (.pair (.leaf 4) (.leaf 4)))) (.pair (.leaf 4) (.pair (.leaf 4) (.pair (.leaf 4) (.leaf 4))))],[.bool],fun p=>Zuj p.1 p.2⟩)
theorem wSame_i (x:(Rat×Rat×Rat×Rat)×Rat×Rat×Rat×Rat) (y:(Rat×Rat×Rat×Rat)×Rat×Rat×Rat×Rat):Zk ⟨Tryz.prog,[(39,0),(41,2),(43,3),(91,1),(93,4)],[ZQd,Z9h],[],[],[],[],[]⟩ [] Tryz.f68 .no [.pair (.pair (.leaf 4) (.pair (.leaf 4) (.pair (.leaf 4) (.leaf 4)))) (.pair (.leaf 4) (.pair (.leaf 4) (.pair (.leaf 4) (.leaf 4)))),.pair (.pair (.leaf 4) (.pair (.leaf 4) (.pair (.leaf 4) (.leaf 4)))) (.pair (.leaf 4) (.pair (.leaf 4) (.pair (.leaf 4) (.leaf 4))))] [.bool] (x,y)=Zuj x y:=by kernel_rfl
theorem wSame_k:Zj Tryz.prog ZOm.1 ZOm.2:=Zn (C:=⟨Tryz.prog,[(39,0),(41,2),(43,3),(91,1),(93,4)],[ZQd,Z9h],[],[],[],[],[]⟩) ⟨ZCm,ZKp,trivial⟩ trivial trivial trivial (inl:=[]) trivial (ann:=.no) Tryz.func68 (fun _ _=>by kernel_rfl) rfl (fun v vals x z ha hz=>(wSame_i x.1 x.2).trans hz)
end Go.Eng
set_option maxRecDepth 100000
set_option maxHeartbeats 4000000
namespace Go.Eng
open Go.Proofs Go.RowKit
noncomputable def Znh:FuncId×Con:=(28,⟨[.slice (.leaf 3),.slice (.pair (.pair (.leaf 4) (.pair (.leaf 4) (.pair (.leaf 4) (.leaf 4)))) (.pair (.leaf 4) (.pair (.leaf 4) (.pair (.leaf 4) (.leaf 4)))))],[.bool],fun p=>Zle p.1 p.2⟩)
theorem is2_i (x:List Rat) (y:List ((Rat×Rat×Rat×Rat)×Rat×Rat×Rat×Rat)):Zk ⟨Tryz.prog,[(39,0),(41,2),(43,3),(91,1),(93,4)],[Z1c,ZFk,ZOm],[],[],[],[],[]⟩ [] Tryz.f28 (.two .no (.two .no (.two (.two .no (.two (.cut ⟨⟨[0,1,12],[],[.s 13 (.dat (.int .i64))]⟩,[(.exit 0,⟨[],[],[]⟩),(.ret,⟨[],[],[.s 1000 (.dat .bool)]⟩)]⟩ (.two (.two .no (.two .no (.two (.two (.two .no (.two (.cut ⟨⟨[],[],[]⟩,[(.norm,⟨[0,1,12,13],[],[.s 42 (.dat .bool)]⟩)]⟩ .no) .no)) .no) .no))) .no)) .no)) .no))) [.slice (.leaf 3),.slice (.pair (.pair (.leaf 4) (.pair (.leaf 4) (.pair (.leaf 4) (.leaf 4)))) (.pair (.leaf 4) (.pair (.leaf 4) (.pair (.leaf 4) (.leaf 4)))))] [.bool] (x,y)=Zle x y:=by kernel_rfl
theorem is2_k:Zj Tryz.prog Znh.1 Znh.2:=Zn (C:=⟨Tryz.prog,[(39,0),(41,2),(43,3),(91,1),(93,4)],[Z1c,ZFk,ZOm],[],[],[],[],[]⟩) ⟨Zoj,is1_k,wSame_k,trivial⟩ trivial trivial trivial (inl:=[]) trivial (ann:=(.two .no (.two .no (.two (.two .no (.two (.cut ⟨⟨[0,1,12],[],[.s 13 (.dat (.int .i64))]⟩,[(.exit 0,⟨[],[],[]⟩),(.ret,⟨[],[],[.s 1000 (.dat .bool)]⟩)]⟩ (.two (.two .no (.two .no (.two (.two (.two .no (.two (.cut ⟨⟨[],[],[]⟩,[(.norm,⟨[0,1,12,13],[],[.s 42 (.dat .bool)]⟩)]⟩ .no) .no)) .no) .no))) .no)) .no)) .no)))) Tryz.func28 (fun _ _=>by kernel_rfl) rfl (fun v vals x z ha hz=>(is2_i x.1 x.2).trans hz)
end Go.Eng
set_option maxRecDepth 100000
set_option maxHeartbeats 4000000
namespace Go.Eng
open Go.Proofs Go.RowKit
noncomputable def ZNh:FuncId×Con:=(33,⟨[.slice (.slice (.leaf 3)),.slice (.slice (.pair (.pair (.leaf 4) (.pair (.leaf 4) (.pair (.leaf 4) (.leaf 4)))) (.pair (.leaf 4) (.pair (.leaf 4) (.pair (.leaf 4) (.leaf 4))))))],[.bool],fun p=>Z4c p.1 p.2⟩)
theorem ZBv (x:List (List Rat)) (y:List (List ((Rat×Rat×Rat×Rat)×Rat×Rat×Rat×Rat))):Zk ⟨Tryz.prog,[(39,0),(41,2),(43,3),(91,1),(93,4)],[Znh],[],[],[],[],[]⟩ [] Tryz.f33 (.two .no (.two .no (.two (.two .no (.two (.cut ⟨⟨[0,1,12],[],[.s 13 (.dat (.int .i64))]⟩,[(.exit 0,⟨[],[],[]⟩),(.ret,⟨[],[],[.s 1000 (.dat .bool)]⟩)]⟩ .no) .no)) .no))) [.slice (.slice (.leaf 3)),.slice (.slice (.pair (.pair (.leaf 4) (.pair (.leaf 4) (.pair (.leaf 4) (.leaf 4)))) (.pair (.leaf 4) (.pair (.leaf 4) (.pair (.leaf 4) (.leaf 4))))))] [.bool] (x,y)=Z4c x y:=by kernel_rfl
theorem ZOs:Zj Tryz.prog ZNh.1 ZNh.2:=Zn (C:=⟨Tryz.prog,[(39,0),(41,2),(43,3),(91,1),(93,4)],[Znh],[],[],[],[],[]⟩) ⟨is2_k,trivial⟩ trivial trivial trivial (inl:=[]) trivial (ann:=(.two .no (.two .no (.two (.two .no (.two (.cut ⟨⟨[0,1,12],[],[.s 13 (.dat (.int .i64))]⟩,[(.exit 0,⟨[],[],[]⟩),(.ret,⟨[],[],[.s 1000 (.dat .bool)]⟩)]⟩ .no) .no)) .no)))) Tryz.func33 (fun _ _=>by kernel_rfl) rfl (fun v vals x z ha hz=>(ZBv x.1 x.2).trans hz)
end Go.Eng
set_option maxRecDepth 100000
set_option maxHeartbeats 4000000
namespace Go.Eng
open Go.Proofs Go.RowKit
noncomputable def Z7h:FuncId×Con:=(79,⟨[.slice (.pair (.int .i64) (.int .i64))],[.slice (.pair (.leaf 4) (.pair (.leaf 4) (.pair (.leaf 4) (.leaf 4))))],fun p=>Z3i p⟩)
theorem ZSv (l:List (Int×Int)):Zk ⟨Tryz.prog,[(39,0),(41,2),(43,3),(91,1),(93,4)],[ZVh,Z7d],[],[],[],[],[]⟩ [] Tryz.f79 (.two .no (.two .no (.two (.two .no (.two (.cut ⟨⟨[6,7],[],[.s 3 (.own 95 (.pair (.leaf 4) (.pair (.leaf 4) (.pair (.leaf 4) (.leaf 4))))),.s 8 (.dat (.int .i64))]⟩,[(.exit 0,⟨[],[],[.s 3 (.own 95 (.pair (.leaf 4) (.pair (.leaf 4) (.pair (.leaf 4) (.leaf 4)))))]⟩)]⟩ .no) .no)) .no))) [.slice (.pair (.int .i64) (.int .i64))] [.slice (.pair (.leaf 4) (.pair (.leaf 4) (.pair (.leaf 4) (.leaf 4))))] (l)=Z3i l:=by kernel_rfl
theorem ZAs:Zj Tryz.prog Z7h.1 Z7h.2:=Zn (C:=⟨Tryz.prog,[(39,0),(41,2),(43,3),(91,1),(93,4)],[ZVh,Z7d],[],[],[],[],[]⟩) ⟨rof_k,Zhk,trivial⟩ trivial trivial trivial (inl:=[]) trivial (ann:=(.two .no (.two .no (.two (.two .no (.two (.cut ⟨⟨[6,7],[],[.s 3 (.own 95 (.pair (.leaf 4) (.pair (.leaf 4) (.pair (.leaf 4) (.leaf 4))))),.s 8 (.dat (.int .i64))]⟩,[(.exit 0,⟨[],[],[.s 3 (.own 95 (.pair (.leaf 4) (.pair (.leaf 4) (.pair (.leaf 4) (.leaf 4)))))]⟩)]⟩ .no) .no)) .no)))) Tryz.func79 (fun _ _=>by kernel_rfl) rfl (fun v vals x z ha hz=>(ZSv x).trans hz)
end Go.Eng
set_option maxRecDepth 100000
set_option maxHeartbeats 4000000
namespace Go.Eng
open Go.Proofs Go.RowKit
noncomputable def Z8k:FuncId×Con:=(78,⟨[.slice (.slice (.pair (.int .i64) (.int .i64)))],[.slice (.slice (.pair (.leaf 4) (.pair (.leaf 4) (.pair (.leaf 4) (.leaf 4)))))],fun p=>Zfn p⟩)
theorem ZOx (m:List (List (Int×Int))):Zk ⟨Tryz.prog,[(39,0),(41,2),(43,3),(91,1),(93,4)],[Z7h],[],[],[],[],[]⟩ [] Tryz.f78 (.two .no (.two .no (.two (.two .no (.two (.cut ⟨⟨[0,3,9],[],[.s 10 (.dat (.int .i64)),.l (.sl 3) (.own 79 (.slice (.pair (.leaf 4) (.pair (.leaf 4) (.pair (.leaf 4) (.leaf 4))))))]⟩,[(.exit 0,⟨[3],[],[.l (.sl 3) (.own 79 (.slice (.pair (.leaf 4) (.pair (.leaf 4) (.pair (.leaf 4) (.leaf 4))))))]⟩)]⟩ .no) .no)) .no))) [.slice (.slice (.pair (.int .i64) (.int .i64)))] [.slice (.slice (.pair (.leaf 4) (.pair (.leaf 4) (.pair (.leaf 4) (.leaf 4)))))] (m)=Zfn m:=by kernel_rfl
theorem Z3t:Zj Tryz.prog Z8k.1 Z8k.2:=Zn (C:=⟨Tryz.prog,[(39,0),(41,2),(43,3),(91,1),(93,4)],[Z7h],[],[],[],[],[]⟩) ⟨ZAs,trivial⟩ trivial trivial trivial (inl:=[]) trivial (ann:=(.two .no (.two .no (.two (.two .no (.two (.cut ⟨⟨[0,3,9],[],[.s 10 (.dat (.int .i64)),.l (.sl 3) (.own 79 (.slice (.pair (.leaf 4) (.pair (.leaf 4) (.pair (.leaf 4) (.leaf 4))))))]⟩,[(.exit 0,⟨[3],[],[.l (.sl 3) (.own 79 (.slice (.pair (.leaf 4) (.pair (.leaf 4) (.pair (.leaf 4) (.leaf 4))))))]⟩)]⟩ .no) .no)) .no)))) Tryz.func78 (fun _ _=>by kernel_rfl) rfl (fun v vals x z ha hz=>(ZOx x).trans hz)
end Go.Eng
set_option maxRecDepth 100000
set_option maxHeartbeats 4000000
namespace Go.Eng
open Go.Proofs Go.RowKit
noncomputable def Zsl:FuncId×Con:=(36,⟨[.slice (.slice (.pair (.int .i64) (.int .i64))),.slice (.pair (.int .i64) (.int .i64)),.slice (.pair (.int .i64) (.int .i64))],[.pair (.slice (.slice (.leaf 3))) (.pair (.slice (.leaf 3)) (.slice (.leaf 3))),.pair (.slice (.slice (.pair (.leaf 4) (.pair (.leaf 4) (.pair (.leaf 4) (.leaf 4)))))) (.pair (.slice (.pair (.leaf 4) (.pair (.leaf 4) (.pair (.leaf 4) (.leaf 4))))) (.slice (.pair (.leaf 4) (.pair (.leaf 4) (.pair (.leaf 4) (.leaf 4))))))],fun p=>Zpn p.1 p.2.1 p.2.2⟩)
theorem ZXw (a:List (List (Int×Int))) (b:List (Int×Int)) (c:List (Int×Int)):Zk ⟨Tryz.prog,[(39,0),(41,2),(43,3),(91,1),(93,4)],[ZFf,Zdf,Z8k,Z7h],[],[],[],[],[]⟩ [] Tryz.f36 .no [.slice (.slice (.pair (.int .i64) (.int .i64))),.slice (.pair (.int .i64) (.int .i64)),.slice (.pair (.int .i64) (.int .i64))] [.pair (.slice (.slice (.leaf 3))) (.pair (.slice (.leaf 3)) (.slice (.leaf 3))),.pair (.slice (.slice (.pair (.leaf 4) (.pair (.leaf 4) (.pair (.leaf 4) (.leaf 4)))))) (.pair (.slice (.pair (.leaf 4) (.pair (.leaf 4) (.pair (.leaf 4) (.leaf 4))))) (.slice (.pair (.leaf 4) (.pair (.leaf 4) (.pair (.leaf 4) (.leaf 4))))))] (a,b,c)=Zpn a b c:=by kernel_rfl
theorem Zru:Zj Tryz.prog Zsl.1 Zsl.2:=Zn (C:=⟨Tryz.prog,[(39,0),(41,2),(43,3),(91,1),(93,4)],[ZFf,Zdf,Z8k,Z7h],[],[],[],[],[]⟩) ⟨Zao,Zvo,Z3t,ZAs,trivial⟩ trivial trivial trivial (inl:=[]) trivial (ann:=.no) Tryz.func36 (fun _ _=>by kernel_rfl) rfl (fun v vals x z ha hz=>(ZXw x.1 x.2.1 x.2.2).trans hz)
end Go.Eng
set_option maxRecDepth 100000
set_option maxHeartbeats 4000000
namespace Go.Eng
open Go.Proofs Go.RowKit
noncomputable def Z7g:FuncId×Con:=(80,⟨[.pair (.slice (.slice (.leaf 3))) (.pair (.slice (.leaf 3)) (.slice (.leaf 3)))],[.int .i64],fun p=>ZPk p⟩)
theorem ZHv (p:(List (List Rat))×(List Rat)×(List Rat)):Zk ⟨Tryz.prog,[(39,0),(41,2),(43,3),(91,1),(93,4)],[],[],[],[],[],[]⟩ [(93,Tryz.f93,.no),(121,Tryz.f121,.no),(137,Tryz.f137,.cut ⟨⟨[],[],[]⟩,[(.ret,⟨[],[],[.s 1000 (.dat (.int .i64))]⟩)]⟩ (.two .no (.two (.two .no (.two (.cut ⟨⟨[0,1,7],[],[.s 8 (.dat (.int .i64))]⟩,[(.exit 0,⟨[],[],[]⟩),(.ret,⟨[],[],[.s 1000 (.dat (.int .i64))]⟩)]⟩ .no) .no)) .no)))] Tryz.f80 (.two .no (.two (.two (.cut ⟨⟨[],[],[]⟩,[(.norm,⟨[],[],[.s 27 (.dat .bool)]⟩)]⟩ .no) .no) .no)) [.pair (.slice (.slice (.leaf 3))) (.pair (.slice (.leaf 3)) (.slice (.leaf 3)))] [.int .i64] (p)=ZPk p:=by kernel_rfl
theorem ZJp:Zj Tryz.prog Z7g.1 Z7g.2:=Zn (C:=⟨Tryz.prog,[(39,0),(41,2),(43,3),(91,1),(93,4)],[],[],[],[],[],[]⟩) trivial trivial trivial trivial (inl:=[(93,Tryz.f93,.no),(121,Tryz.f121,.no),(137,Tryz.f137,.cut ⟨⟨[],[],[]⟩,[(.ret,⟨[],[],[.s 1000 (.dat (.int .i64))]⟩)]⟩ (.two .no (.two (.two .no (.two (.cut ⟨⟨[0,1,7],[],[.s 8 (.dat (.int .i64))]⟩,[(.exit 0,⟨[],[],[]⟩),(.ret,⟨[],[],[.s 1000 (.dat (.int .i64))]⟩)]⟩ .no) .no)) .no)))]) ⟨⟨Tryz.func93,fun _ _=>by kernel_rfl⟩,⟨Tryz.func121,fun _ _=>by kernel_rfl⟩,⟨Tryz.func137,fun _ _=>by kernel_rfl⟩,trivial⟩ (ann:=(.two .no (.two (.two (.cut ⟨⟨[],[],[]⟩,[(.norm,⟨[],[],[.s 27 (.dat .bool)]⟩)]⟩ .no) .no) .no))) Tryz.func80 (fun _ _=>by kernel_rfl) rfl (fun v vals x z ha hz=>(ZHv x).trans hz)
end Go.Eng
set_option maxRecDepth 100000
set_option maxHeartbeats 4000000
namespace Go.Eng
open Go.Proofs Go.RowKit
noncomputable def Z2l:FuncId×Con:=(118,⟨[.leaf 2],[.int .i64],fun p=>Z6i p⟩)
theorem isign_i (x:Int):Zk ⟨Tryz.prog,[(39,0),(41,2),(43,3)],[],[],[],[],[],[]⟩ [] Tryz.f118 .no [.leaf 2] [.int .i64] (x)=Zbo x:=by kernel_rfl
theorem isign_k:Zj Tryz.prog Z2l.1 Z2l.2:=Zn (C:=⟨Tryz.prog,[(39,0),(41,2),(43,3)],[],[],[],[],[],[]⟩) trivial trivial trivial trivial (inl:=[]) trivial (ann:=.no) Tryz.func118 (fun _ _=>by kernel_rfl) rfl fun v vals x z ha hz=>(isign_i x).trans (Z2x hz)
end Go.Eng
set_option maxRecDepth 100000
set_option maxHeartbeats 4000000
namespace Go.Eng
open Go.Proofs Go.RowKit
noncomputable def ZWd:FuncId×Con:=(72,⟨[.leaf 3],[.int .i64],fun p=>Zhd p⟩)
theorem qsign_i (x:Rat):Zk ⟨Tryz.prog,[(39,0),(41,2),(43,3)],[Z2l],[],[],[],[],[]⟩ [] Tryz.f72 .no [.leaf 3] [.int .i64] (x)=Zmo x:=by kernel_rfl
theorem ZMk:Zj Tryz.prog ZWd.1 ZWd.2:=Zn (C:=⟨Tryz.prog,[(39,0),(41,2),(43,3)],[Z2l],[],[],[],[],[]⟩) ⟨isign_k,trivial⟩ trivial trivial trivial (inl:=[]) trivial (ann:=.no) Tryz.func72 (fun _ _=>by kernel_rfl) rfl fun v vals x z ha hz=>(qsign_i x).trans (ZNw hz)
end Go.Eng
set_option maxRecDepth 100000
set_option maxHeartbeats 4000000
namespace Go.Eng
open Go.Proofs Go.RowKit
noncomputable def Z5g:FuncId×Con:=(31,⟨[.leaf 3,.leaf 3],[.int .i64],fun p=>ZTg p.1 p.2⟩)
theorem qcmp_i (x:Rat) (y:Rat):Zk ⟨Tryz.prog,[(39,0),(41,2),(43,3)],[Zff,ZWd],[],[],[],[],[]⟩ [] Tryz.f31 .no [.leaf 3,.leaf 3] [.int .i64] (x,y)=Zco x y:=by kernel_rfl
theorem Zzs:Zj Tryz.prog Z5g.1 Z5g.2:=Zn (C:=⟨Tryz.prog,[(39,0),(41,2),(43,3)],[Zff,ZWd],[],[],[],[],[]⟩) ⟨ZIo,ZMk,trivial⟩ trivial trivial trivial (inl:=[]) trivial (ann:=.no) Tryz.func31 (fun _ _=>by kernel_rfl) rfl fun v vals x z ha hz=>(qcmp_i x.1 x.2).trans (ZZx hz)
end Go.Eng
namespace Go.Eng
open Go.RowKit
def endO (ty:TypeId) (t:T) (c:V) (l:Lo):Option (List t.den):=match c with
 | .cons (.own u) .nl=>match lkE l u with
  | some ⟨_,_,.own ty' t' xs false⟩=>match Nat.beq ty' ty with
   | true=>ZCc t' t xs
   | false=>none
  | _=>none
 | _=>none
def Zlk (C:Cf) (inl:Inl) (fn:Func) (ann:Ann) (ats:List T) (ty:TypeId) (t:T) (x:Zga ats):Option (List t.den):=match fn.body with
 | some c=>Z7b C (ZKg C inl 20) fn.results.toList 0 fn.ntmps c _ ann (Zec 0 0 (Zxe ats x)) [] 1 ⟨fun _ _ _=>none,fun _ _ _ _=>none,fun c l _=>endO ty t c l⟩
 | none=>none
theorem Zny {C:Cf} (hC:CfOK C) {inl:Inl} (hinl:ZIc C inl) {f:FuncId} {fn:Func} {ann:Ann} {ats:List T} {ty:TypeId} {t:T} {x:Zga ats} {z:List t.den} (hf:C.P.funcs[f]? = some fn) (hl:Nat.ble ats.length fn.ntmps=true) (h:Zlk C inl fn ann ats ty t x=some z)
  {w:World} {v:Zb} {vals:List Value} (hv:VIn v w) (ha:ZJb v ats vals x):RetO C.P f vals.toArray w v fun y v' w'=>OwnR t.rep ty t.n z w y v' w':=by
 unfold Zlk at h;split at h
 ·rename_i c hc;obtain ⟨h1,h2,h3⟩:=Zdk (γ:=fun _=>.box 0) (l:=[]) (U:=(· < 0)) ha;have hK:vals.length≤fn.ntmps:=by rw [h3];exact Nat.le_of_ble_eq_true hl
  refine ZRk hv hf hc rfl hK fun a hS=>?_;have hr:RelX fn.ntmps (fun _ _=>False) w v (· < 1) (· < 1) (Zec 0 0 (Zxe ats x)) [] a w (fun _=>.box 0) v []:=by
   refine ⟨⟨hS.size,hS.dfr,fun t x h=>(by cases h),hS.ext,hS.vst,hS.loc,hS.nd⟩,fun t e he=>?_,⟨[],trivial,List.Perm.refl _⟩,List.nodup_nil,fun t e he=>?_,fun e he=>(by cases he),fun x y h=>h.elim⟩
   ·obtain ⟨y,q1,q2,q3,q4,q5⟩:=Zed h1 h2 he;have:=hS.fr t y ?_
    ·rw [this];exact q3
    ·have q2:vals[t-0]? = some y:=q2;have:=ZXl (k:=0) (t:=t) (y:=y) (by simpa using q2)
     rwa [Nat.zero_add] at this
   ·obtain ⟨y,q1,q2,q3,q4,q5⟩:=Zed h1 h2 he;exact ⟨V.ok.mono (fun k h=>absurd h (Nat.not_lt_zero k)) q4,by show e.st<1;omega⟩
  refine Zxl hC (ZKo hC hinl 20) c h ⟨_,_,_,hr⟩ ⟨fun f' l' n' a' w' hp hn' ho' hr'=>(by cases hp),fun i f' l' n' a' w' hp hn' ho' hr'=>(by cases hp),fun c l' n' a' w' hp hn' ho' hr'=>?_⟩;obtain ⟨γ',v',ℓ',vals',hr',hc',hk',hres⟩:=hr';have hp:endO ty t c l'=some z:=hp;unfold endO at hp;split at hp
  ·rename_i u;split at hp
   ·rename_i kk st ty' t' xs he;split at hp
    ·rename_i hty;have hty:=Nat.eq_of_beq_eq_true hty;subst hty;obtain ⟨e1,e2⟩:=Zca hp
     cases e1;cases e2
     obtain ⟨c1,xs1,rfl,⟨y,rfl,_,hy⟩,hx1⟩:=hc';have hx1:xs1=[]:=hx1;subst hx1;obtain ⟨ob,cap,g1,rfl⟩:=hy _ he;obtain ⟨hkk,es,hes,hmem⟩:=hr'.loc he;have hkk:kk=_:=hkk;subst hkk;obtain ⟨ob',cap',cs,q1,q2,rfl⟩:=hes;have q1:γ' kk = .own ob' cap':=q1;rw [g1] at q1;cases q1;obtain ⟨jj,hj⟩:=hmem _ List.mem_cons_self;obtain ⟨hh,hb⟩:=hr'.st.loc _ (List.mem_of_getElem? hj);refine ⟨hr'.st.dfr,_,Zfi hres,_,v',rfl,hr'.st.ext.ext,hr'.st.vst.ext,ob,_,cap,cs,rfl,hh,fun b e=>?_,q2,rfl⟩;obtain ⟨h1,h2⟩:=hb b e;rcases h1 with h1 | h1
     ·exact ⟨h1,h2⟩
     ·cases h1
    ·cases hp
   ·cases hp
  ·cases hp
 ·cases h
theorem cono_k {C:Cf} (hc:CL C.P C.cons) (ho:OL C.P C.owns) (hi:IL C.P C.ins) (hm:ML C.P C.meths) {inl:Inl} (hn:NL C.P inl) {f:FuncId} {fn:Func} {ann:Ann} {con:ConO} (hf:C.P.funcs[f]? = some fn) (hen:Z6 C.P f) (hl:Nat.ble con.args.length fn.ntmps=true)
  (h:∀ x z,con.F x=some z→Zlk C inl fn ann con.args con.ty con.t x=some z) (hq:QL C.P C.omats:=by exact trivial):ZFg C.P f con :=
 fun _ _ _ x z hv ha hz=>⟨hen,Zny (CfOK.of hc ho hi hm hq) (ZIc.of hn) hf hl (h x z hz) hv ha⟩
def endM (ty ty2:TypeId) (t:T) (c:V) (l:Lo):Option (List (List t.den)):=match c with
 | .cons (.own u) .nl=>match lkE l u with
  | some ⟨_,_,.mat ty' ty2' t' m _⟩=>match Nat.beq ty' ty,Nat.beq ty2' ty2 with
   | true,true=>ZAb t' t m
   | _,_=>none
  | _=>none
 | _=>none
def ZXi (C:Cf) (inl:Inl) (fn:Func) (ann:Ann) (ats:List T) (ty ty2:TypeId) (t:T) (x:Zga ats):Option (List (List t.den)):=match fn.body with
 | some c=>Z7b C (ZKg C inl 20) fn.results.toList 0 fn.ntmps c _ ann (Zec 0 0 (Zxe ats x)) [] 1 ⟨fun _ _ _=>none,fun _ _ _ _=>none,fun c l _=>endM ty ty2 t c l⟩
 | none=>none
theorem ZWv {ℓ es:List Loc} {E:List Loc} (h:(ℓ.filterMap Loc.blk).Nodup) (hp:ℓ.Perm (es++E)):(es.filterMap Loc.blk).Nodup:=by
 have h1:=(hp.filterMap Loc.blk).nodup_iff.1 h;rw [List.filterMap_append] at h1;exact (List.nodup_append.1 h1).1
theorem Zfu {C:Cf} (hC:CfOK C) {inl:Inl} (hinl:ZIc C inl) {f:FuncId} {fn:Func} {ann:Ann} {ats:List T} {ty ty2:TypeId} {t:T} {x:Zga ats} {z:List (List t.den)} (hf:C.P.funcs[f]? = some fn) (hl:Nat.ble ats.length fn.ntmps=true) (h:ZXi C inl fn ann ats ty ty2 t x=some z)
  {w:World} {v:Zb} {vals:List Value} (hv:VIn v w) (ha:ZJb v ats vals x):RetO C.P f vals.toArray w v (OwnM ty ty2 t z w):=by
 unfold ZXi at h;split at h
 ·rename_i c hc;obtain ⟨h1,h2,h3⟩:=Zdk (γ:=fun _=>.box 0) (l:=[]) (U:=(· < 0)) ha;have hK:vals.length≤fn.ntmps:=by rw [h3];exact Nat.le_of_ble_eq_true hl
  refine ZRk hv hf hc rfl hK fun a hS=>?_;have hr:RelX fn.ntmps (fun _ _=>False) w v (· < 1) (· < 1) (Zec 0 0 (Zxe ats x)) [] a w (fun _=>.box 0) v []:=by
   refine ⟨⟨hS.size,hS.dfr,fun t x h=>(by cases h),hS.ext,hS.vst,hS.loc,hS.nd⟩,fun t e he=>?_,⟨[],trivial,List.Perm.refl _⟩,List.nodup_nil,fun t e he=>?_,fun e he=>(by cases he),fun x y h=>h.elim⟩
   ·obtain ⟨y,q1,q2,q3,q4,q5⟩:=Zed h1 h2 he;have:=hS.fr t y ?_
    ·rw [this];exact q3
    ·have q2:vals[t-0]? = some y:=q2;have:=ZXl (k:=0) (t:=t) (y:=y) (by simpa using q2)
     rwa [Nat.zero_add] at this
   ·obtain ⟨y,q1,q2,q3,q4,q5⟩:=Zed h1 h2 he;exact ⟨V.ok.mono (fun k h=>absurd h (Nat.not_lt_zero k)) q4,by show e.st<1;omega⟩
  refine Zxl hC (ZKo hC hinl 20) c h ⟨_,_,_,hr⟩ ⟨fun f' l' n' a' w' hp hn' ho' hr'=>(by cases hp),fun i f' l' n' a' w' hp hn' ho' hr'=>(by cases hp),fun c l' n' a' w' hp hn' ho' hr'=>?_⟩;obtain ⟨γ',v',ℓ',vals',hr',hc',hk',hres⟩:=hr';have hp:endM ty ty2 t c l'=some z:=hp;unfold endM at hp;split at hp
  ·rename_i u;split at hp
   ·rename_i kk st ty' ty2' t' m' hv' he;split at hp
    ·rename_i hty hty2;have hty:=Nat.eq_of_beq_eq_true hty;have hty2:=Nat.eq_of_beq_eq_true hty2;subst hty hty2;obtain ⟨e1,e2⟩:=Zca hp
     cases e1;cases e2
     obtain ⟨c1,xs1,rfl,⟨y,rfl,_,hy⟩,hx1⟩:=hc';have hx1:xs1=[]:=hx1;subst hx1;obtain ⟨ob,cap,rows0,g1,rfl⟩:=hy _ he;obtain ⟨E,hE,hpm⟩:=hr'.lr;obtain ⟨es,E',r1,r2,r3⟩:=ZGg hE he;obtain ⟨ob',cap',rows,es2,q1,q2,rfl⟩:=r1;have hkk:kk=_:=(Zz he).2;subst hkk;have q1:γ' kk = .mat ob' cap' rows:=q1;rw [g1] at q1;cases q1;refine ⟨hr'.st.dfr,_,Zfi hres,_,v',rfl,hr'.st.ext.ext,hr'.st.vst.ext,_,_,_,es2,rfl,q2,fun x hx=>?_,ZWv hr'.st.nd (hpm.trans r3)⟩;obtain ⟨hh,hb⟩:=hr'.st.loc x ((hpm.trans r3).mem_iff.2 (List.mem_append_left _ hx));refine ⟨hh,fun b e=>?_⟩;obtain ⟨h1,h2⟩:=hb b e;rcases h1 with h1 | h1
     ·exact ⟨h1,h2⟩
     ·cases h1
    ·cases hp
   ·cases hp
  ·cases hp
 ·cases h
theorem ZVr {C:Cf} (hc:CL C.P C.cons) (ho:OL C.P C.owns) (hi:IL C.P C.ins) (hm:ML C.P C.meths) {inl:Inl} (hn:NL C.P inl) {f:FuncId} {fn:Func} {ann:Ann} {con:ConM} (hf:C.P.funcs[f]? = some fn) (hen:Z6 C.P f) (hl:Nat.ble con.args.length fn.ntmps=true)
  (h:∀ x z,con.F x=some z→ZXi C inl fn ann con.args con.ty con.ty2 con.t x=some z) (hq:QL C.P C.omats:=by exact trivial):Z4h C.P f con :=
 fun _ _ _ x z hv ha hz=>⟨hen,Zfu (CfOK.of hc ho hi hm hq) (ZIc.of hn) hf hl (h x z hz) hv ha⟩
end Go.Eng
set_option maxRecDepth 100000
set_option maxHeartbeats 4000000
namespace Go.Eng
open Go.Proofs Go.RowKit
noncomputable def ZOc:FuncId×ConO:=(49,⟨[.int .i64],43,.leaf 3,fun p=>ZAg p⟩)
theorem Zev (n:Int):Zlk ⟨Tryz.prog,[(39,0),(41,2),(43,3),(91,1),(93,4)],[Z9b],[],[ZPf],[],[],[]⟩ [] Tryz.f49 .no [.int .i64] 43 (.leaf 3) (n)=ZAg n:=by kernel_rfl
theorem Zui:ZFg Tryz.prog ZOc.1 ZOc.2:=cono_k (C:=⟨Tryz.prog,[(39,0),(41,2),(43,3),(91,1),(93,4)],[Z9b],[],[ZPf],[],[],[]⟩) ⟨Zjh,trivial⟩ ⟨Zin,trivial⟩ trivial trivial (inl:=[]) trivial (ann:=.no) Tryz.func49 (fun _ _=>by kernel_rfl) rfl (fun x z hz=>(Zev x).trans hz)
end Go.Eng
set_option maxRecDepth 100000
set_option maxHeartbeats 4000000
namespace Go.Eng
open Go.Proofs Go.RowKit
noncomputable def Zel:FuncId×ConM:=(95,⟨[.slice (.slice (.leaf 3))],30,43,.leaf 3,fun p=>ZBo p⟩)
theorem Z2u (m:List (List Rat)):ZXi ⟨Tryz.prog,[(39,0),(41,2),(43,3),(91,1),(93,4)],[],[8],[ZId],[],[],[]⟩ [] Tryz.f95 (.two .no (.two .no (.two (.two .no (.two (.cut ⟨⟨[3,9,10],[],[.s 11 (.dat (.int .i64)),.l (.sl 3) (.mat 30 43 (.leaf 3))]⟩,[(.exit 0,⟨[3],[],[.l (.sl 3) (.mat 30 43 (.leaf 3))]⟩)]⟩ .no) .no)) .no))) [.slice (.slice (.leaf 3))] 30 43 (.leaf 3) (m)=ZBo m:=by kernel_rfl
theorem Zfw:Z4h Tryz.prog Zel.1 Zel.2:=ZVr (C:=⟨Tryz.prog,[(39,0),(41,2),(43,3),(91,1),(93,4)],[],[8],[ZId],[],[],[]⟩) trivial ⟨Zpk,trivial⟩ trivial trivial (inl:=[]) trivial (ann:=(.two .no (.two .no (.two (.two .no (.two (.cut ⟨⟨[3,9,10],[],[.s 11 (.dat (.int .i64)),.l (.sl 3) (.mat 30 43 (.leaf 3))]⟩,[(.exit 0,⟨[3],[],[.l (.sl 3) (.mat 30 43 (.leaf 3))]⟩)]⟩ .no) .no)) .no)))) Tryz.func95 (fun _ _=>by kernel_rfl) rfl (fun x z hz=>(Z2u x).trans hz)
end Go.Eng
set_option maxRecDepth 100000
set_option maxHeartbeats 4000000
namespace Go.Eng
open Go.Proofs Go.RowKit
noncomputable def ZTl:FuncId×Con:=(125,⟨[.ptr (.pair (.slice (.slice (.leaf 3))) (.pair (.slice (.leaf 3)) (.pair (.slice (.leaf 3)) (.pair (.leaf 3) (.pair (.slice (.int .i64)) (.slice (.int .i64))))))),.int .i64],[.slice (.leaf 3)],fun p=>ZIk p.1 p.2⟩)
theorem ZKw (t:(List (List Rat))×(List Rat)×(List Rat)×Rat×(List Int)×(List Int)) (n:Int):Zk ⟨Tryz.prog,[(39,0),(41,2),(43,3),(91,1),(93,4)],[],[],[ZOc],[],[],[]⟩ [] Tryz.f125 (.two .no (.two .no (.two (.two .no (.two (.cut ⟨⟨[0,1,5,13,14],[],[.s 15 (.dat (.int .i64)),.l (.sl 5) (.own 43 (.leaf 3))]⟩,[(.exit 0,⟨[5],[],[.l (.sl 5) (.own 43 (.leaf 3))]⟩)]⟩ (.two (.two .no (.two .no (.two (.two (.two .no (.two .no (.cut ⟨⟨[],[],[]⟩,[(.norm,⟨[0,1,5,13,14,15],[],[.l (.sl 5) (.own 43 (.leaf 3))]⟩)]⟩ .no))) .no) .no))) .no)) .no)) .no))) [.ptr (.pair (.slice (.slice (.leaf 3))) (.pair (.slice (.leaf 3)) (.pair (.slice (.leaf 3)) (.pair (.leaf 3) (.pair (.slice (.int .i64)) (.slice (.int .i64))))))),.int .i64] [.slice (.leaf 3)] (t,n)=ZIk t n:=by kernel_rfl
theorem ZHt:Zj Tryz.prog ZTl.1 ZTl.2:=Zn (C:=⟨Tryz.prog,[(39,0),(41,2),(43,3),(91,1),(93,4)],[],[],[ZOc],[],[],[]⟩) trivial ⟨Zui,trivial⟩ trivial trivial (inl:=[]) trivial (ann:=(.two .no (.two .no (.two (.two .no (.two (.cut ⟨⟨[0,1,5,13,14],[],[.s 15 (.dat (.int .i64)),.l (.sl 5) (.own 43 (.leaf 3))]⟩,[(.exit 0,⟨[5],[],[.l (.sl 5) (.own 43 (.leaf 3))]⟩)]⟩ (.two (.two .no (.two .no (.two (.two (.two .no (.two .no (.cut ⟨⟨[],[],[]⟩,[(.norm,⟨[0,1,5,13,14,15],[],[.l (.sl 5) (.own 43 (.leaf 3))]⟩)]⟩ .no))) .no) .no))) .no)) .no)) .no)))) Tryz.func125 (fun _ _=>by kernel_rfl) rfl (fun v vals x z ha hz=>(ZKw x.1 x.2).trans hz)
end Go.Eng
set_option maxRecDepth 100000
set_option maxHeartbeats 4000000
namespace Go.Eng
open Go.Proofs Go.RowKit
noncomputable def ZKk:FuncId×Con:=(126,⟨[.ptr (.pair (.slice (.slice (.leaf 3))) (.pair (.slice (.leaf 3)) (.pair (.slice (.leaf 3)) (.pair (.leaf 3) (.pair (.slice (.int .i64)) (.slice (.int .i64))))))),.int .i64,.int .i64],[.slice (.leaf 3)],fun p=>ZDn p.1 p.2.1 p.2.2⟩)
theorem Z8v (t : (List (List Rat)) × (List Rat) × (List Rat) × Rat × (List Int) × (List Int)) (n : Int) (k : Int) : Zk ⟨Tryz.prog, [(39, 0), (41, 2), (43, 3), (91, 1), (93, 4)], [ZPc], [], [ZOc], [], [((43, "Neg"), 117)], []⟩ [] Tryz.f126 (.two .no (.two .no (.two (.two .no (.two (.cut ⟨⟨[0, 1, 2, 7, 15, 16], [], [.s 17 (.dat (.int .i64)), .l (.sl 7) (.own 43 (.leaf 3))]⟩, [(.exit 0, ⟨[7], [], [.l (.sl 7) (.own 43 (.leaf 3))]⟩)]⟩ (.two (.two .no (.two .no (.two (.two (.two .no (.two (.cut ⟨⟨[], [], []⟩, [(.norm, ⟨[0, 1, 2, 7, 8, 9, 15, 16, 17], [], [.s 31 (.dat .bool)]⟩)]⟩ .no) (.cut ⟨⟨[], [], []⟩, [(.norm, ⟨[0, 1, 2, 7, 15, 16, 17], [], [.l (.sl 7) (.own 43 (.leaf 3))]⟩)]⟩ .no))) .no) .no))) .no)) .no)) .no))) [.ptr (.pair (.slice (.slice (.leaf 3))) (.pair (.slice (.leaf 3)) (.pair (.slice (.leaf 3)) (.pair (.leaf 3) (.pair (.slice (.int .i64)) (.slice (.int .i64))))))), .int .i64, .int .i64] [.slice (.leaf 3)] (t, n, k) = ZDn t n k := by kernel_rfl
theorem ZGw : Zj Tryz.prog ZKk.1 ZKk.2 := Zn (C := ⟨Tryz.prog, [(39, 0), (41, 2), (43, 3), (91, 1), (93, 4)], [ZPc], [], [ZOc], [], [((43, "Neg"), 117)], []⟩) ⟨Zxj, trivial⟩ ⟨Zui, trivial⟩ trivial ⟨Zqk, trivial⟩ (inl := []) trivial (ann := (.two .no (.two .no (.two (.two .no (.two (.cut ⟨⟨[0, 1, 2, 7, 15, 16], [], [.s 17 (.dat (.int .i64)), .l (.sl 7) (.own 43 (.leaf 3))]⟩, [(.exit 0, ⟨[7], [], [.l (.sl 7) (.own 43 (.leaf 3))]⟩)]⟩ (.two (.two .no (.two .no (.two (.two (.two .no (.two (.cut ⟨⟨[], [], []⟩, [(.norm, ⟨[0, 1, 2, 7, 8, 9, 15, 16, 17], [], [.s 31 (.dat .bool)]⟩)]⟩ .no) (.cut ⟨⟨[], [], []⟩, [(.norm, ⟨[0, 1, 2, 7, 15, 16, 17], [], [.l (.sl 7) (.own 43 (.leaf 3))]⟩)]⟩ .no))) .no) .no))) .no)) .no)) .no)))) Tryz.func126 (fun _ _ => by kernel_rfl) rfl (fun v vals x z ha hz => (Z8v x.1 x.2.1 x.2.2).trans hz)
end Go.Eng
set_option maxRecDepth 100000
set_option maxHeartbeats 4000000
namespace Go.Eng
open Go.Proofs Go.RowKit
noncomputable def ZQl:FuncId×Con:=(81,⟨[.pair (.slice (.slice (.leaf 3))) (.pair (.slice (.leaf 3)) (.slice (.leaf 3)))],[.pair (.int .i64) (.pair (.leaf 3) (.pair (.slice (.leaf 3)) (.pair (.slice (.leaf 3)) (.slice (.leaf 3)))))],fun p=>Zio p⟩)
theorem Ztt (p : (List (List Rat)) × (List Rat) × (List Rat)) : Zk ⟨Tryz.prog, [(39, 0), (41, 2), (43, 3), (91, 1), (93, 4)], [ZOd, ZZd, Zbe, Z5g, Z9b, Zff, ZWd, ZPc, ZTl, ZKk, ZNg], [], [ZOc, ZId], [], [((43, "Add"), 23), ((43, "Cmp"), 31), ((43, "Div"), 213), ((43, "Mul"), 30), ((43, "Neg"), 117), ((43, "Sign"), 72), ((43, "Sub"), 71), ((43, "Zero"), 22)], [Zel]⟩ [(122, Tryz.f122, .two .no (.two .no (.two (.two .no (.two (.cut ⟨⟨[1, 3, 20], [.fld (.sl 3) 0, .fld (.sl 3) 1, .fld (.sl 3) 2], [.s 21 (.dat (.int .i64)), .l (.sl 3) (.box 166 (.agg (.cons (.mat 30 43 (.leaf 3)) (.cons (.own 43 (.leaf 3)) (.cons (.own 43 (.leaf 3)) (.cons (.dat (.leaf 3)) (.cons (.own 3 (.int .i64)) (.one (.own 3 (.int .i64))))))))))]⟩, [(.exit 0, ⟨[1, 3], [.fld (.sl 3) 0, .fld (.sl 3) 1, .fld (.sl 3) 2], [.l (.sl 3) (.box 166 (.agg (.cons (.mat 30 43 (.leaf 3)) (.cons (.own 43 (.leaf 3)) (.cons (.own 43 (.leaf 3)) (.cons (.dat (.leaf 3)) (.cons (.own 3 (.int .i64)) (.one (.own 3 (.int .i64))))))))))]⟩)]⟩ .no) .no)) (.two (.two .no (.two (.cut ⟨⟨[1, 3, 37], [.fld (.sl 3) 0, .fld (.sl 3) 1, .fld (.sl 3) 2, .fld (.sl 3) 6, .fld (.sl 3) 7], [.s 38 (.dat (.int .i64)), .l (.sl 3) (.box 166 (.agg (.cons (.mat 30 43 (.leaf 3)) (.cons (.own 43 (.leaf 3)) (.cons (.own 43 (.leaf 3)) (.cons (.dat (.leaf 3)) (.cons (.own 3 (.int .i64)) (.one (.own 3 (.int .i64))))))))))]⟩, [(.exit 2, ⟨[3], [.fld (.sl 3) 0, .fld (.sl 3) 1, .fld (.sl 3) 2, .fld (.sl 3) 6, .fld (.sl 3) 7], [.l (.sl 3) (.box 166 (.agg (.cons (.mat 30 43 (.leaf 3)) (.cons (.own 43 (.leaf 3)) (.cons (.own 43 (.leaf 3)) (.cons (.dat (.leaf 3)) (.cons (.own 3 (.int .i64)) (.one (.own 3 (.int .i64))))))))))]⟩)]⟩ .no) .no)) .no)))), (123, Tryz.f123, .two .no (.two .no (.two .no (.two (.two .no (.two (.cut ⟨⟨[0, 3, 6, 7, 8, 34, 35], [], [.s 9 (.dat (.int .i64)), .s 36 (.dat (.int .i64))]⟩, [(.exit 0, ⟨[0, 3, 6, 7, 8], [], [.s 9 (.dat (.int .i64))]⟩)]⟩ (.two (.two .no (.two .no (.two (.two (.two .no (.two (.cut ⟨⟨[], [], []⟩, [(.norm, ⟨[0, 3, 6, 7, 8, 9, 10, 34, 35, 36], [], [.s 61 (.dat .bool)]⟩)]⟩ .no) (.cut ⟨⟨[], [], []⟩, [(.norm, ⟨[0, 3, 6, 7, 8, 34, 35, 36], [], [.s 9 (.dat (.int .i64))]⟩)]⟩ .no))) .no) .no))) .no)) .no)) (.two .no (.two (.two .no (.two (.unroll 0 .no) .no)) .no)))))), (124, Tryz.f124, .two .no (.two (.cut ⟨⟨[0, 1], [.fld (.sl 0) 0, .fld (.sl 0) 1, .fld (.sl 0) 2, .fld (.sl 0) 6, .fld (.sl 0) 7], [.l (.sl 0) (.box 166 (.agg (.cons (.mat 30 43 (.leaf 3)) (.cons (.own 43 (.leaf 3)) (.cons (.own 43 (.leaf 3)) (.cons (.dat (.leaf 3)) (.cons (.own 3 (.int .i64)) (.one (.own 3 (.int .i64))))))))))]⟩, [(.ret, ⟨[], [.fld (.sl 0) 0, .fld (.sl 0) 1, .fld (.sl 0) 2, .fld (.sl 0) 6, .fld (.sl 0) 7], [.s 1000 (.dat (.int .i64)), .l (.sl 0) (.box 166 (.agg (.cons (.mat 30 43 (.leaf 3)) (.cons (.own 43 (.leaf 3)) (.cons (.own 43 (.leaf 3)) (.cons (.dat (.leaf 3)) (.cons (.own 3 (.int .i64)) (.one (.own 3 (.int .i64))))))))))]⟩)]⟩ .no) .no)), (159, Tryz.f159, .two .no (.two .no (.two (.two .no (.two (.cut ⟨⟨[0, 1, 2, 7, 37], [], [.s 38 (.dat (.int .i64)), .l (.sl 20) (.mat 30 43 (.leaf 3))]⟩, [(.exit 0, ⟨[0, 1, 2, 7], [], [.l (.sl 20) (.mat 30 43 (.leaf 3))]⟩)]⟩ .no) .no)) (.two .no (.two .no (.two (.two .no (.two (.cut ⟨⟨[0, 1, 2, 94], [], [.s 95 (.dat (.int .i64)), .l (.sl 67) (.mat 30 43 (.leaf 3)), .l (.sl 77) (.own 43 (.leaf 3))]⟩, [(.exit 2, ⟨[0, 1, 2], [], [.l (.sl 67) (.mat 30 43 (.leaf 3)), .l (.sl 77) (.own 43 (.leaf 3))]⟩)]⟩ (.two (.two .no (.two .no (.two (.cut ⟨⟨[], [], []⟩, [(.norm, ⟨[0, 1, 2, 94, 95], [], [.l (.fld (.sl 0) 0) (.mat 30 43 (.leaf 3)), .l (.fld (.sl 0) 1) (.own 43 (.leaf 3))]⟩)]⟩ (.two (.two .no (.two (.two (.cut ⟨⟨[], [], []⟩, [(.norm, ⟨[0, 1, 2, 10, 94, 95], [], [.s 114 (.dat .bool)]⟩)]⟩ .no) .no) .no)) .no)) .no))) .no)) .no)) .no)))))), (164, Tryz.f164, .two .no (.two .no (.two (.two .no (.two (.cut ⟨⟨[0, 9, 10], [], [.s 3 (.dat (.int .i64)), .s 11 (.dat (.int .i64))]⟩, [(.exit 0, ⟨[], [], [.s 3 (.dat (.int .i64))]⟩)]⟩ (.two (.two .no (.two .no (.two (.two (.two .no (.two (.cut ⟨⟨[], [], []⟩, [(.norm, ⟨[0, 3, 4, 9, 10, 11], [], [.s 40 (.dat .bool)]⟩)]⟩ .no) (.cut ⟨⟨[], [], []⟩, [(.norm, ⟨[0, 9, 10, 11], [], [.s 3 (.dat (.int .i64))]⟩)]⟩ .no))) .no) .no))) .no)) .no)) .no))), (165, Tryz.f165, .two .no (.two .no (.two .no (.two (.two .no (.two (.cut ⟨⟨[0, 1, 2, 8, 17], [], [.s 7 (.dat (.int .i64)), .s 18 (.dat (.int .i64)), .l (.sl 8) (.box 43 (.dat (.leaf 3)))]⟩, [(.exit 0, ⟨[], [], [.s 7 (.dat (.int .i64))]⟩)]⟩ (.two (.two .no (.two .no (.two (.cut ⟨⟨[], [], []⟩, [(.norm, ⟨[0, 1, 2, 8, 17, 18], [], [.s 7 (.dat (.int .i64)), .l (.sl 8) (.box 43 (.dat (.leaf 3)))]⟩)]⟩ (.two (.two .no (.two .no (.two .no (.two .no (.two (.two .no (.cut ⟨⟨[], [], []⟩, [(.norm, ⟨[0, 1, 2, 7, 8, 9, 10, 17, 18], [], [.s 12 (.dat (.int .i64))]⟩)]⟩ .no)) (.two (.cut ⟨⟨[], [], []⟩, [(.norm, ⟨[0, 1, 2, 7, 8, 9, 10, 17, 18], [], [.s 110 (.dat .bool)]⟩)]⟩ .no) (.cut ⟨⟨[], [], []⟩, [(.norm, ⟨[0, 1, 2, 8, 17, 18], [], [.s 7 (.dat (.int .i64)), .l (.sl 8) (.box 43 (.dat (.leaf 3)))]⟩)]⟩ .no))))))) .no)) .no))) .no)) .no)) .no)))), (182, Tryz.f182, .sel 1 (.two .no (.two (.two .no (.two (.cut ⟨⟨[0, 1, 2, 3, 8, 15], [], [.s 16 (.dat (.int .i64)), .l (.fld (.sl 0) 0) (.agg (.mat 30 43 (.leaf 3)))]⟩, [(.exit 0, ⟨[0, 1, 2, 3, 8], [], [.l (.fld (.sl 0) 0) (.agg (.mat 30 43 (.leaf 3)))]⟩)]⟩ .no) .no)) .no)) (.two .no (.two (.two .no (.two (.cut ⟨⟨[0, 1, 2, 3, 8, 15], [], [.s 16 (.dat (.int .i64)), .l (.sl 1) (.own 43 (.leaf 3))]⟩, [(.exit 0, ⟨[0, 1, 2, 3, 8], [], [.l (.sl 1) (.own 43 (.leaf 3))]⟩)]⟩ .no) .no)) .no)))] Tryz.f81 (.two .no (.two .no (.two .no (.two .no (.two .no (.two (.cut ⟨⟨[], [], []⟩, [(.norm, ⟨[2, 3, 4, 6], [], [.s 5 (.dat (.ptr (.pair (.slice (.slice (.leaf 3))) (.pair (.slice (.leaf 3)) (.pair (.slice (.leaf 3)) (.pair (.leaf 3) (.pair (.slice (.int .i64)) (.slice (.int .i64))))))))), .s 9 (.dat (.int .i64))]⟩)]⟩ .no) (.two .no (.two .no (.two (.two .no (.two .no (.cut ⟨⟨[], [], []⟩, [(.norm, ⟨[2, 3, 5, 6, 9, 10], [], [.l (.sl 10) (.own 43 (.leaf 3))]⟩)]⟩ .no))) (.two (.two .no (.two (.cut ⟨⟨[2, 3, 5, 6, 9, 10, 69, 70], [], [.s 71 (.dat (.int .i64)), .l (.sl 10) (.own 43 (.leaf 3))]⟩, [(.exit 0, ⟨[2, 3, 5, 6, 10], [], [.l (.sl 10) (.own 43 (.leaf 3))]⟩)]⟩ (.two (.two .no (.two .no (.two (.two (.two .no (.two .no (.cut ⟨⟨[], [], []⟩, [(.norm, ⟨[2, 3, 5, 6, 9, 10, 69, 70, 71], [], [.l (.sl 10) (.own 43 (.leaf 3))]⟩)]⟩ .no))) .no) .no))) .no)) .no)) .no)))))))))) [.pair (.slice (.slice (.leaf 3))) (.pair (.slice (.leaf 3)) (.slice (.leaf 3)))] [.pair (.int .i64) (.pair (.leaf 3) (.pair (.slice (.leaf 3)) (.pair (.slice (.leaf 3)) (.slice (.leaf 3)))))] (p) = Zio p := by kernel_rfl
theorem ZQt : Zj Tryz.prog ZQl.1 ZQl.2 := Zn (C := ⟨Tryz.prog, [(39, 0), (41, 2), (43, 3), (91, 1), (93, 4)], [ZOd, ZZd, Zbe, Z5g, Z9b, Zff, ZWd, ZPc, ZTl, ZKk, ZNg], [], [ZOc, ZId], [], [((43, "Add"), 23), ((43, "Cmp"), 31), ((43, "Div"), 213), ((43, "Mul"), 30), ((43, "Neg"), 117), ((43, "Sign"), 72), ((43, "Sub"), 71), ((43, "Zero"), 22)], [Zel]⟩) ⟨Zfl, ZLj, Z9k, Zzs, Zjh, ZIo, ZMk, Zxj, ZHt, ZGw, ZHs, trivial⟩ ⟨Zui, Zpk, trivial⟩ trivial ⟨Z2n, Zjt, ZYp, ZGk, Zqk, Zxp, ZVs, ZSo, trivial⟩ (inl := [(122, Tryz.f122, .two .no (.two .no (.two (.two .no (.two (.cut ⟨⟨[1, 3, 20], [.fld (.sl 3) 0, .fld (.sl 3) 1, .fld (.sl 3) 2], [.s 21 (.dat (.int .i64)), .l (.sl 3) (.box 166 (.agg (.cons (.mat 30 43 (.leaf 3)) (.cons (.own 43 (.leaf 3)) (.cons (.own 43 (.leaf 3)) (.cons (.dat (.leaf 3)) (.cons (.own 3 (.int .i64)) (.one (.own 3 (.int .i64))))))))))]⟩, [(.exit 0, ⟨[1, 3], [.fld (.sl 3) 0, .fld (.sl 3) 1, .fld (.sl 3) 2], [.l (.sl 3) (.box 166 (.agg (.cons (.mat 30 43 (.leaf 3)) (.cons (.own 43 (.leaf 3)) (.cons (.own 43 (.leaf 3)) (.cons (.dat (.leaf 3)) (.cons (.own 3 (.int .i64)) (.one (.own 3 (.int .i64))))))))))]⟩)]⟩ .no) .no)) (.two (.two .no (.two (.cut ⟨⟨[1, 3, 37], [.fld (.sl 3) 0, .fld (.sl 3) 1, .fld (.sl 3) 2, .fld (.sl 3) 6, .fld (.sl 3) 7], [.s 38 (.dat (.int .i64)), .l (.sl 3) (.box 166 (.agg (.cons (.mat 30 43 (.leaf 3)) (.cons (.own 43 (.leaf 3)) (.cons (.own 43 (.leaf 3)) (.cons (.dat (.leaf 3)) (.cons (.own 3 (.int .i64)) (.one (.own 3 (.int .i64))))))))))]⟩, [(.exit 2, ⟨[3], [.fld (.sl 3) 0, .fld (.sl 3) 1, .fld (.sl 3) 2, .fld (.sl 3) 6, .fld (.sl 3) 7], [.l (.sl 3) (.box 166 (.agg (.cons (.mat 30 43 (.leaf 3)) (.cons (.own 43 (.leaf 3)) (.cons (.own 43 (.leaf 3)) (.cons (.dat (.leaf 3)) (.cons (.own 3 (.int .i64)) (.one (.own 3 (.int .i64))))))))))]⟩)]⟩ .no) .no)) .no)))), (123, Tryz.f123, .two .no (.two .no (.two .no (.two (.two .no (.two (.cut ⟨⟨[0, 3, 6, 7, 8, 34, 35], [], [.s 9 (.dat (.int .i64)), .s 36 (.dat (.int .i64))]⟩, [(.exit 0, ⟨[0, 3, 6, 7, 8], [], [.s 9 (.dat (.int .i64))]⟩)]⟩ (.two (.two .no (.two .no (.two (.two (.two .no (.two (.cut ⟨⟨[], [], []⟩, [(.norm, ⟨[0, 3, 6, 7, 8, 9, 10, 34, 35, 36], [], [.s 61 (.dat .bool)]⟩)]⟩ .no) (.cut ⟨⟨[], [], []⟩, [(.norm, ⟨[0, 3, 6, 7, 8, 34, 35, 36], [], [.s 9 (.dat (.int .i64))]⟩)]⟩ .no))) .no) .no))) .no)) .no)) (.two .no (.two (.two .no (.two (.unroll 0 .no) .no)) .no)))))), (124, Tryz.f124, .two .no (.two (.cut ⟨⟨[0, 1], [.fld (.sl 0) 0, .fld (.sl 0) 1, .fld (.sl 0) 2, .fld (.sl 0) 6, .fld (.sl 0) 7], [.l (.sl 0) (.box 166 (.agg (.cons (.mat 30 43 (.leaf 3)) (.cons (.own 43 (.leaf 3)) (.cons (.own 43 (.leaf 3)) (.cons (.dat (.leaf 3)) (.cons (.own 3 (.int .i64)) (.one (.own 3 (.int .i64))))))))))]⟩, [(.ret, ⟨[], [.fld (.sl 0) 0, .fld (.sl 0) 1, .fld (.sl 0) 2, .fld (.sl 0) 6, .fld (.sl 0) 7], [.s 1000 (.dat (.int .i64)), .l (.sl 0) (.box 166 (.agg (.cons (.mat 30 43 (.leaf 3)) (.cons (.own 43 (.leaf 3)) (.cons (.own 43 (.leaf 3)) (.cons (.dat (.leaf 3)) (.cons (.own 3 (.int .i64)) (.one (.own 3 (.int .i64))))))))))]⟩)]⟩ .no) .no)), (159, Tryz.f159, .two .no (.two .no (.two (.two .no (.two (.cut ⟨⟨[0, 1, 2, 7, 37], [], [.s 38 (.dat (.int .i64)), .l (.sl 20) (.mat 30 43 (.leaf 3))]⟩, [(.exit 0, ⟨[0, 1, 2, 7], [], [.l (.sl 20) (.mat 30 43 (.leaf 3))]⟩)]⟩ .no) .no)) (.two .no (.two .no (.two (.two .no (.two (.cut ⟨⟨[0, 1, 2, 94], [], [.s 95 (.dat (.int .i64)), .l (.sl 67) (.mat 30 43 (.leaf 3)), .l (.sl 77) (.own 43 (.leaf 3))]⟩, [(.exit 2, ⟨[0, 1, 2], [], [.l (.sl 67) (.mat 30 43 (.leaf 3)), .l (.sl 77) (.own 43 (.leaf 3))]⟩)]⟩ (.two (.two .no (.two .no (.two (.cut ⟨⟨[], [], []⟩, [(.norm, ⟨[0, 1, 2, 94, 95], [], [.l (.fld (.sl 0) 0) (.mat 30 43 (.leaf 3)), .l (.fld (.sl 0) 1) (.own 43 (.leaf 3))]⟩)]⟩ (.two (.two .no (.two (.two (.cut ⟨⟨[], [], []⟩, [(.norm, ⟨[0, 1, 2, 10, 94, 95], [], [.s 114 (.dat .bool)]⟩)]⟩ .no) .no) .no)) .no)) .no))) .no)) .no)) .no)))))), (164, Tryz.f164, .two .no (.two .no (.two (.two .no (.two (.cut ⟨⟨[0, 9, 10], [], [.s 3 (.dat (.int .i64)), .s 11 (.dat (.int .i64))]⟩, [(.exit 0, ⟨[], [], [.s 3 (.dat (.int .i64))]⟩)]⟩ (.two (.two .no (.two .no (.two (.two (.two .no (.two (.cut ⟨⟨[], [], []⟩, [(.norm, ⟨[0, 3, 4, 9, 10, 11], [], [.s 40 (.dat .bool)]⟩)]⟩ .no) (.cut ⟨⟨[], [], []⟩, [(.norm, ⟨[0, 9, 10, 11], [], [.s 3 (.dat (.int .i64))]⟩)]⟩ .no))) .no) .no))) .no)) .no)) .no))), (165, Tryz.f165, .two .no (.two .no (.two .no (.two (.two .no (.two (.cut ⟨⟨[0, 1, 2, 8, 17], [], [.s 7 (.dat (.int .i64)), .s 18 (.dat (.int .i64)), .l (.sl 8) (.box 43 (.dat (.leaf 3)))]⟩, [(.exit 0, ⟨[], [], [.s 7 (.dat (.int .i64))]⟩)]⟩ (.two (.two .no (.two .no (.two (.cut ⟨⟨[], [], []⟩, [(.norm, ⟨[0, 1, 2, 8, 17, 18], [], [.s 7 (.dat (.int .i64)), .l (.sl 8) (.box 43 (.dat (.leaf 3)))]⟩)]⟩ (.two (.two .no (.two .no (.two .no (.two .no (.two (.two .no (.cut ⟨⟨[], [], []⟩, [(.norm, ⟨[0, 1, 2, 7, 8, 9, 10, 17, 18], [], [.s 12 (.dat (.int .i64))]⟩)]⟩ .no)) (.two (.cut ⟨⟨[], [], []⟩, [(.norm, ⟨[0, 1, 2, 7, 8, 9, 10, 17, 18], [], [.s 110 (.dat .bool)]⟩)]⟩ .no) (.cut ⟨⟨[], [], []⟩, [(.norm, ⟨[0, 1, 2, 8, 17, 18], [], [.s 7 (.dat (.int .i64)), .l (.sl 8) (.box 43 (.dat (.leaf 3)))]⟩)]⟩ .no))))))) .no)) .no))) .no)) .no)) .no)))), (182, Tryz.f182, .sel 1 (.two .no (.two (.two .no (.two (.cut ⟨⟨[0, 1, 2, 3, 8, 15], [], [.s 16 (.dat (.int .i64)), .l (.fld (.sl 0) 0) (.agg (.mat 30 43 (.leaf 3)))]⟩, [(.exit 0, ⟨[0, 1, 2, 3, 8], [], [.l (.fld (.sl 0) 0) (.agg (.mat 30 43 (.leaf 3)))]⟩)]⟩ .no) .no)) .no)) (.two .no (.two (.two .no (.two (.cut ⟨⟨[0, 1, 2, 3, 8, 15], [], [.s 16 (.dat (.int .i64)), .l (.sl 1) (.own 43 (.leaf 3))]⟩, [(.exit 0, ⟨[0, 1, 2, 3, 8], [], [.l (.sl 1) (.own 43 (.leaf 3))]⟩)]⟩ .no) .no)) .no)))]) ⟨⟨Tryz.func122, fun _ _ => by kernel_rfl⟩, ⟨Tryz.func123, fun _ _ => by kernel_rfl⟩, ⟨Tryz.func124, fun _ _ => by kernel_rfl⟩, ⟨Tryz.func159, fun _ _ => by kernel_rfl⟩, ⟨Tryz.func164, fun _ _ => by kernel_rfl⟩, ⟨Tryz.func165, fun _ _ => by kernel_rfl⟩, ⟨Tryz.func182, fun _ _ => by kernel_rfl⟩, trivial⟩ (ann := (.two .no (.two .no (.two .no (.two .no (.two .no (.two (.cut ⟨⟨[], [], []⟩, [(.norm, ⟨[2, 3, 4, 6], [], [.s 5 (.dat (.ptr (.pair (.slice (.slice (.leaf 3))) (.pair (.slice (.leaf 3)) (.pair (.slice (.leaf 3)) (.pair (.leaf 3) (.pair (.slice (.int .i64)) (.slice (.int .i64))))))))), .s 9 (.dat (.int .i64))]⟩)]⟩ .no) (.two .no (.two .no (.two (.two .no (.two .no (.cut ⟨⟨[], [], []⟩, [(.norm, ⟨[2, 3, 5, 6, 9, 10], [], [.l (.sl 10) (.own 43 (.leaf 3))]⟩)]⟩ .no))) (.two (.two .no (.two (.cut ⟨⟨[2, 3, 5, 6, 9, 10, 69, 70], [], [.s 71 (.dat (.int .i64)), .l (.sl 10) (.own 43 (.leaf 3))]⟩, [(.exit 0, ⟨[2, 3, 5, 6, 10], [], [.l (.sl 10) (.own 43 (.leaf 3))]⟩)]⟩ (.two (.two .no (.two .no (.two (.two (.two .no (.two .no (.cut ⟨⟨[], [], []⟩, [(.norm, ⟨[2, 3, 5, 6, 9, 10, 69, 70, 71], [], [.l (.sl 10) (.own 43 (.leaf 3))]⟩)]⟩ .no))) .no) .no))) .no)) .no)) .no))))))))))) Tryz.func81 (fun _ _ => by kernel_rfl) rfl (fun v vals x z ha hz => (Ztt x).trans hz) (hq := ⟨Zfw, trivial⟩)
end Go.Eng
set_option maxRecDepth 100000
set_option maxHeartbeats 4000000
namespace Go.Eng
open Go.Proofs Go.RowKit
noncomputable def Zsk:FuncId×Con:=(37,⟨[.pair (.slice (.slice (.leaf 3))) (.pair (.slice (.leaf 3)) (.slice (.leaf 3)))],[.pair (.int .i64) (.pair (.leaf 3) (.pair (.slice (.leaf 3)) (.pair (.slice (.leaf 3)) (.slice (.leaf 3))))),.int .i64],fun p=>Zcn p⟩)
theorem ZPv (p:(List (List Rat))×(List Rat)×(List Rat)):Zk ⟨Tryz.prog,[(39,0),(41,2),(43,3),(91,1),(93,4)],[Z7g,ZQl],[],[],[],[],[]⟩ [] Tryz.f37 .no [.pair (.slice (.slice (.leaf 3))) (.pair (.slice (.leaf 3)) (.slice (.leaf 3)))] [.pair (.int .i64) (.pair (.leaf 3) (.pair (.slice (.leaf 3)) (.pair (.slice (.leaf 3)) (.slice (.leaf 3))))),.int .i64] (p)=Zcn p:=by kernel_rfl
theorem ZSy:Zj Tryz.prog Zsk.1 Zsk.2:=Zn (C:=⟨Tryz.prog,[(39,0),(41,2),(43,3),(91,1),(93,4)],[Z7g,ZQl],[],[],[],[],[]⟩) ⟨ZJp,ZQt,trivial⟩ trivial trivial trivial (inl:=[]) trivial (ann:=.no) Tryz.func37 (fun _ _=>by kernel_rfl) rfl (fun v vals x z ha hz=>(ZPv x).trans hz)
end Go.Eng
set_option maxRecDepth 100000
set_option maxHeartbeats 4000000
namespace Go.Eng
open Go.Proofs Go.RowKit
noncomputable def ZDm:FuncId×Con:=(24,⟨[.leaf 3,.leaf 3],[.bool],fun p=>Zni p.1 p.2⟩)
theorem qsame_i (x:Rat) (y:Rat):Zk ⟨Tryz.prog,[(39,0),(41,2),(43,3)],[Zmh],[],[],[],[],[]⟩ [] Tryz.f24 (.two .no (.two (.cut ⟨⟨[],[],[]⟩,[(.norm,⟨[],[],[.s 4 (.dat .bool)]⟩)]⟩ .no) .no)) [.leaf 3,.leaf 3] [.bool] (x,y)=Zgo x y:=by kernel_rfl
theorem qsame_k:Zj Tryz.prog ZDm.1 ZDm.2:=Zn (C:=⟨Tryz.prog,[(39,0),(41,2),(43,3)],[Zmh],[],[],[],[],[]⟩) ⟨cmp_k,trivial⟩ trivial trivial trivial (inl:=[]) trivial (ann:=.two .no (.two (.cut ⟨⟨[],[],[]⟩,[(.norm,⟨[],[],[.s 4 (.dat .bool)]⟩)]⟩ .no) .no)) Tryz.func24 (fun _ _=>by kernel_rfl) rfl fun v vals x z ha hz=>(qsame_i x.1 x.2).trans (Zsv hz)
end Go.Eng
set_option maxRecDepth 100000
set_option maxHeartbeats 4000000
namespace Go.Eng
open Go.Proofs Go.RowKit
noncomputable def ZQg:FuncId×Con:=(53,⟨[.slice (.leaf 3),.slice (.leaf 3)],[.leaf 3],fun p=>Z0f p.1 p.2⟩)
theorem ldot_i (x : List Rat) (y : List Rat) : Zk ⟨Tryz.prog, [(39, 0), (41, 2), (43, 3), (91, 1), (93, 4)], [ZZd, Zbe, Z9b], [], [], [], [((43, "Add"), 23), ((43, "Mul"), 30)], []⟩ [] Tryz.f53 (.two .no (.two .no (.two (.two .no (.two (.cut ⟨⟨[0, 1, 4, 5, 9], [], [.s 10 (.dat (.int .i64)), .l (.sl 5) (.box 43 (.dat (.leaf 3)))]⟩, [(.exit 0, ⟨[4, 5], [], [.l (.sl 5) (.box 43 (.dat (.leaf 3)))]⟩)]⟩ .no) .no)) .no))) [.slice (.leaf 3), .slice (.leaf 3)] [.leaf 3] (x, y) = Z0f x y := by kernel_rfl
theorem ZQs : Zj Tryz.prog ZQg.1 ZQg.2 := Zn (C := ⟨Tryz.prog, [(39, 0), (41, 2), (43, 3), (91, 1), (93, 4)], [ZZd, Zbe, Z9b], [], [], [], [((43, "Add"), 23), ((43, "Mul"), 30)], []⟩) ⟨ZLj, Z9k, Zjh, trivial⟩ trivial trivial ⟨Z2n, ZGk, trivial⟩ (inl := []) trivial (ann := (.two .no (.two .no (.two (.two .no (.two (.cut ⟨⟨[0, 1, 4, 5, 9], [], [.s 10 (.dat (.int .i64)), .l (.sl 5) (.box 43 (.dat (.leaf 3)))]⟩, [(.exit 0, ⟨[4, 5], [], [.l (.sl 5) (.box 43 (.dat (.leaf 3)))]⟩)]⟩ .no) .no)) .no)))) Tryz.func53 (fun _ _ => by kernel_rfl) rfl (fun v vals x z ha hz => (ldot_i x.1 x.2).trans hz)
end Go.Eng
set_option maxRecDepth 100000
set_option maxHeartbeats 4000000
namespace Go.Eng
open Go.Proofs Go.RowKit
noncomputable def ZKh:FuncId×Con:=(69,⟨[.slice (.slice (.leaf 3)),.slice (.leaf 3)],[.slice (.leaf 3)],fun p=>ZRj p.1 p.2⟩)
theorem ZDy (m:List (List Rat)) (x:List Rat):Zk ⟨Tryz.prog,[(39,0),(41,2),(43,3),(91,1),(93,4)],[ZQg],[],[],[],[],[]⟩ [] Tryz.f69 (.two .no (.two .no (.two (.two .no (.two (.cut ⟨⟨[1,8,9],[],[.s 5 (.own 43 (.leaf 3)),.s 10 (.dat (.int .i64))]⟩,[(.exit 0,⟨[],[],[.s 5 (.own 43 (.leaf 3))]⟩)]⟩ .no) .no)) .no))) [.slice (.slice (.leaf 3)),.slice (.leaf 3)] [.slice (.leaf 3)] (m,x)=ZRj m x:=by kernel_rfl
theorem Zmt:Zj Tryz.prog ZKh.1 ZKh.2:=Zn (C:=⟨Tryz.prog,[(39,0),(41,2),(43,3),(91,1),(93,4)],[ZQg],[],[],[],[],[]⟩) ⟨ZQs,trivial⟩ trivial trivial trivial (inl:=[]) trivial (ann:=(.two .no (.two .no (.two (.two .no (.two (.cut ⟨⟨[1,8,9],[],[.s 5 (.own 43 (.leaf 3)),.s 10 (.dat (.int .i64))]⟩,[(.exit 0,⟨[],[],[.s 5 (.own 43 (.leaf 3))]⟩)]⟩ .no) .no)) .no)))) Tryz.func69 (fun _ _=>by kernel_rfl) rfl (fun v vals x z ha hz=>(ZDy x.1 x.2).trans hz)
end Go.Eng
set_option maxRecDepth 100000
set_option maxHeartbeats 4000000
namespace Go.Eng
open Go.Proofs Go.RowKit
noncomputable def ZEf:FuncId×Con:=(85,⟨[.slice (.leaf 3)],[.bool],fun p=>ZEg p⟩)
theorem lnone_i (x : List Rat) : Zk ⟨Tryz.prog, [(39, 0), (41, 2), (43, 3), (91, 1), (93, 4)], [ZWd], [], [], [], [((43, "Sign"), 72)], []⟩ [(132, Tryz.f132, .no), (133, Tryz.f133, .no), (160, Tryz.f160, .cut ⟨⟨[], [], []⟩, [(.ret, ⟨[], [], [.s 1000 (.dat (.int .i64))]⟩)]⟩ (.two .no (.two (.two .no (.two (.cut ⟨⟨[0, 1, 7], [], [.s 8 (.dat (.int .i64))]⟩, [(.exit 0, ⟨[], [], []⟩), (.ret, ⟨[], [], [.s 1000 (.dat (.int .i64))]⟩)]⟩ .no) .no)) .no)))] Tryz.f85 .no [.slice (.leaf 3)] [.bool] (x) = ZEg x := by kernel_rfl
theorem Zsp : Zj Tryz.prog ZEf.1 ZEf.2 := Zn (C := ⟨Tryz.prog, [(39, 0), (41, 2), (43, 3), (91, 1), (93, 4)], [ZWd], [], [], [], [((43, "Sign"), 72)], []⟩) ⟨ZMk, trivial⟩ trivial trivial ⟨Zxp, trivial⟩ (inl := [(132, Tryz.f132, .no), (133, Tryz.f133, .no), (160, Tryz.f160, .cut ⟨⟨[], [], []⟩, [(.ret, ⟨[], [], [.s 1000 (.dat (.int .i64))]⟩)]⟩ (.two .no (.two (.two .no (.two (.cut ⟨⟨[0, 1, 7], [], [.s 8 (.dat (.int .i64))]⟩, [(.exit 0, ⟨[], [], []⟩), (.ret, ⟨[], [], [.s 1000 (.dat (.int .i64))]⟩)]⟩ .no) .no)) .no)))]) ⟨⟨Tryz.func132, fun _ _ => by kernel_rfl⟩, ⟨Tryz.func133, fun _ _ => by kernel_rfl⟩, ⟨Tryz.func160, fun _ _ => by kernel_rfl⟩, trivial⟩ (ann := .no) Tryz.func85 (fun _ _ => by kernel_rfl) rfl (fun v vals x z ha hz => (lnone_i x).trans hz)
end Go.Eng
set_option maxRecDepth 100000
set_option maxHeartbeats 4000000
namespace Go.Eng
open Go.Proofs Go.RowKit
noncomputable def Z2e:FuncId×Con:=(87,⟨[.slice (.leaf 3),.slice (.leaf 3)],[.bool],fun p=>Z1i p.1 p.2⟩)
theorem ZYy (x : List Rat) (y : List Rat) : Zk ⟨Tryz.prog, [(39, 0), (41, 2), (43, 3), (91, 1), (93, 4)], [Z5g], [], [], [], [((43, "Cmp"), 31)], []⟩ [] Tryz.f87 (.two .no (.two (.two .no (.two (.cut ⟨⟨[0, 1, 7], [], [.s 8 (.dat (.int .i64))]⟩, [(.exit 0, ⟨[], [], []⟩), (.ret, ⟨[], [], [.s 1000 (.dat .bool)]⟩)]⟩ .no) .no)) .no)) [.slice (.leaf 3), .slice (.leaf 3)] [.bool] (x, y) = Z1i x y := by kernel_rfl
theorem Znp : Zj Tryz.prog Z2e.1 Z2e.2 := Zn (C := ⟨Tryz.prog, [(39, 0), (41, 2), (43, 3), (91, 1), (93, 4)], [Z5g], [], [], [], [((43, "Cmp"), 31)], []⟩) ⟨Zzs, trivial⟩ trivial trivial ⟨Zjt, trivial⟩ (inl := []) trivial (ann := (.two .no (.two (.two .no (.two (.cut ⟨⟨[0, 1, 7], [], [.s 8 (.dat (.int .i64))]⟩, [(.exit 0, ⟨[], [], []⟩), (.ret, ⟨[], [], [.s 1000 (.dat .bool)]⟩)]⟩ .no) .no)) .no))) Tryz.func87 (fun _ _ => by kernel_rfl) rfl (fun v vals x z ha hz => (ZYy x.1 x.2).trans hz)
end Go.Eng
set_option maxRecDepth 100000
set_option maxHeartbeats 4000000
namespace Go.Eng
open Go.Proofs Go.RowKit
noncomputable def ZEk:FuncId×Con:=(83,⟨[.pair (.slice (.slice (.leaf 3))) (.pair (.slice (.leaf 3)) (.slice (.leaf 3))),.slice (.leaf 3)],[.bool],fun p=>Zop p.1 p.2⟩)
theorem ZGy (p:(List (List Rat))×(List Rat)×(List Rat)) (x:List Rat):Zk ⟨Tryz.prog,[(39,0),(41,2),(43,3),(91,1),(93,4)],[ZKh,ZEf,Z2e],[],[],[],[],[]⟩ [] Tryz.f83 (.two .no (.two (.cut ⟨⟨[],[],[]⟩,[(.norm,⟨[],[],[.s 4 (.dat .bool)]⟩)]⟩ .no) .no)) [.pair (.slice (.slice (.leaf 3))) (.pair (.slice (.leaf 3)) (.slice (.leaf 3))),.slice (.leaf 3)] [.bool] (p,x)=Zop p x:=by kernel_rfl
theorem ZUt:Zj Tryz.prog ZEk.1 ZEk.2:=Zn (C:=⟨Tryz.prog,[(39,0),(41,2),(43,3),(91,1),(93,4)],[ZKh,ZEf,Z2e],[],[],[],[],[]⟩) ⟨Zmt,Zsp,Znp,trivial⟩ trivial trivial trivial (inl:=[]) trivial (ann:=(.two .no (.two (.cut ⟨⟨[],[],[]⟩,[(.norm,⟨[],[],[.s 4 (.dat .bool)]⟩)]⟩ .no) .no))) Tryz.func83 (fun _ _=>by kernel_rfl) rfl (fun v vals x z ha hz=>(ZGy x.1 x.2).trans hz)
end Go.Eng
set_option maxRecDepth 100000
set_option maxHeartbeats 4000000
namespace Go.Eng
open Go.Proofs Go.RowKit
noncomputable def Z8h:FuncId×Con:=(86,⟨[.pair (.slice (.slice (.leaf 3))) (.pair (.slice (.leaf 3)) (.slice (.leaf 3))),.slice (.leaf 3)],[.slice (.leaf 3)],fun p=>Zik p.1 p.2⟩)
theorem psums_i (p : (List (List Rat)) × (List Rat) × (List Rat)) (y : List Rat) : Zk ⟨Tryz.prog, [(39, 0), (41, 2), (43, 3), (91, 1), (93, 4)], [ZZd, Zbe], [], [ZOc], [], [((43, "Add"), 23), ((43, "Mul"), 30)], []⟩ [] Tryz.f86 (.two .no (.two .no (.two (.two .no (.two (.cut ⟨⟨[1, 5, 15, 16], [], [.s 17 (.dat (.int .i64)), .l (.sl 5) (.own 43 (.leaf 3))]⟩, [(.exit 0, ⟨[5], [], [.l (.sl 5) (.own 43 (.leaf 3))]⟩)]⟩ (.two (.two .no (.two .no (.two (.two (.two .no (.two .no (.two (.cut ⟨⟨[1, 5, 6, 15, 16, 17, 22, 23], [], [.s 24 (.dat (.int .i64)), .l (.sl 5) (.own 43 (.leaf 3))]⟩, [(.exit 2, ⟨[1, 5, 15, 16, 17], [], [.l (.sl 5) (.own 43 (.leaf 3))]⟩)]⟩ .no) .no))) .no) .no))) .no)) .no)) .no))) [.pair (.slice (.slice (.leaf 3))) (.pair (.slice (.leaf 3)) (.slice (.leaf 3))), .slice (.leaf 3)] [.slice (.leaf 3)] (p, y) = Zik p y := by kernel_rfl
theorem Z4q : Zj Tryz.prog Z8h.1 Z8h.2 := Zn (C := ⟨Tryz.prog, [(39, 0), (41, 2), (43, 3), (91, 1), (93, 4)], [ZZd, Zbe], [], [ZOc], [], [((43, "Add"), 23), ((43, "Mul"), 30)], []⟩) ⟨ZLj, Z9k, trivial⟩ ⟨Zui, trivial⟩ trivial ⟨Z2n, ZGk, trivial⟩ (inl := []) trivial (ann := (.two .no (.two .no (.two (.two .no (.two (.cut ⟨⟨[1, 5, 15, 16], [], [.s 17 (.dat (.int .i64)), .l (.sl 5) (.own 43 (.leaf 3))]⟩, [(.exit 0, ⟨[5], [], [.l (.sl 5) (.own 43 (.leaf 3))]⟩)]⟩ (.two (.two .no (.two .no (.two (.two (.two .no (.two .no (.two (.cut ⟨⟨[1, 5, 6, 15, 16, 17, 22, 23], [], [.s 24 (.dat (.int .i64)), .l (.sl 5) (.own 43 (.leaf 3))]⟩, [(.exit 2, ⟨[1, 5, 15, 16, 17], [], [.l (.sl 5) (.own 43 (.leaf 3))]⟩)]⟩ .no) .no))) .no) .no))) .no)) .no)) .no)))) Tryz.func86 (fun _ _ => by kernel_rfl) rfl (fun v vals x z ha hz => (psums_i x.1 x.2).trans hz)
end Go.Eng
set_option maxRecDepth 100000
set_option maxHeartbeats 4000000
namespace Go.Eng
open Go.Proofs Go.RowKit
noncomputable def Zmm:FuncId×Con:=(84,⟨[.pair (.slice (.slice (.leaf 3))) (.pair (.slice (.leaf 3)) (.slice (.leaf 3))),.slice (.leaf 3)],[.bool],fun p=>Zqp p.1 p.2⟩)
theorem pdual_i (p:(List (List Rat))×(List Rat)×(List Rat)) (y:List Rat):Zk ⟨Tryz.prog,[(39,0),(41,2),(43,3),(91,1),(93,4)],[ZEf,Z8h,Z2e],[],[],[],[],[]⟩ [] Tryz.f84 (.two .no (.two (.cut ⟨⟨[],[],[]⟩,[(.norm,⟨[],[],[.s 4 (.dat .bool)]⟩)]⟩ .no) .no)) [.pair (.slice (.slice (.leaf 3))) (.pair (.slice (.leaf 3)) (.slice (.leaf 3))),.slice (.leaf 3)] [.bool] (p,y)=Zqp p y:=by kernel_rfl
theorem pdual_k:Zj Tryz.prog Zmm.1 Zmm.2:=Zn (C:=⟨Tryz.prog,[(39,0),(41,2),(43,3),(91,1),(93,4)],[ZEf,Z8h,Z2e],[],[],[],[],[]⟩) ⟨Zsp,Z4q,Znp,trivial⟩ trivial trivial trivial (inl:=[]) trivial (ann:=(.two .no (.two (.cut ⟨⟨[],[],[]⟩,[(.norm,⟨[],[],[.s 4 (.dat .bool)]⟩)]⟩ .no) .no))) Tryz.func84 (fun _ _=>by kernel_rfl) rfl (fun v vals x z ha hz=>(pdual_i x.1 x.2).trans hz)
end Go.Eng
set_option maxRecDepth 100000
set_option maxHeartbeats 4000000
namespace Go.Eng
open Go.Proofs Go.RowKit
noncomputable def ZVj:FuncId×Con:=(39,⟨[.pair (.slice (.slice (.leaf 3))) (.pair (.slice (.leaf 3)) (.slice (.leaf 3))),.pair (.int .i64) (.pair (.leaf 3) (.pair (.slice (.leaf 3)) (.pair (.slice (.leaf 3)) (.slice (.leaf 3)))))],[.bool],fun p=>ZFn p.1 p.2⟩)
theorem ZNu (p : (List (List Rat)) × (List Rat) × (List Rat)) (a : Int × Rat × (List Rat) × (List Rat) × (List Rat)) : Zk ⟨Tryz.prog, [(39, 0), (41, 2), (43, 3), (91, 1), (93, 4)], [ZOd, ZDm, ZQg, ZKh, ZWd, Z7g, ZEk, Zmm, ZEf, Z8h, Z2e], [], [ZOc], [], [((43, "Same"), 24), ((43, "Sign"), 72), ((43, "Zero"), 22)], []⟩ [] Tryz.f39 (.two .no (.two .no (.two (.cut ⟨⟨[], [], []⟩, [(.norm, ⟨[2, 3], [], [.s 5 (.dat .bool)]⟩)]⟩ .no) (.two (.two .no (.two (.two .no (.two (.two (.cut ⟨⟨[], [], []⟩, [(.norm, ⟨[], [], [.s 4 (.dat .bool)]⟩)]⟩ .no) .no) (.two .no (.two (.two (.cut ⟨⟨[], [], []⟩, [(.norm, ⟨[], [], [.s 4 (.dat .bool)]⟩)]⟩ .no) .no) (.two .no (.two (.two (.two (.cut ⟨⟨[], [], []⟩, [(.norm, ⟨[2, 3], [], [.s 135 (.dat .bool)]⟩)]⟩ .no) .no) (.two (.cut ⟨⟨[], [], []⟩, [(.norm, ⟨[], [], [.s 4 (.dat .bool)]⟩)]⟩ .no) .no)) .no)))))) .no)) .no)))) [.pair (.slice (.slice (.leaf 3))) (.pair (.slice (.leaf 3)) (.slice (.leaf 3))), .pair (.int .i64) (.pair (.leaf 3) (.pair (.slice (.leaf 3)) (.pair (.slice (.leaf 3)) (.slice (.leaf 3)))))] [.bool] (p, a) = ZFn p a := by kernel_rfl
theorem Z5w : Zj Tryz.prog ZVj.1 ZVj.2 := Zn (C := ⟨Tryz.prog, [(39, 0), (41, 2), (43, 3), (91, 1), (93, 4)], [ZOd, ZDm, ZQg, ZKh, ZWd, Z7g, ZEk, Zmm, ZEf, Z8h, Z2e], [], [ZOc], [], [((43, "Same"), 24), ((43, "Sign"), 72), ((43, "Zero"), 22)], []⟩) ⟨Zfl, qsame_k, ZQs, Zmt, ZMk, ZJp, ZUt, pdual_k, Zsp, Z4q, Znp, trivial⟩ ⟨Zui, trivial⟩ trivial ⟨ZBy, Zxp, ZSo, trivial⟩ (inl := []) trivial (ann := (.two .no (.two .no (.two (.cut ⟨⟨[], [], []⟩, [(.norm, ⟨[2, 3], [], [.s 5 (.dat .bool)]⟩)]⟩ .no) (.two (.two .no (.two (.two .no (.two (.two (.cut ⟨⟨[], [], []⟩, [(.norm, ⟨[], [], [.s 4 (.dat .bool)]⟩)]⟩ .no) .no) (.two .no (.two (.two (.cut ⟨⟨[], [], []⟩, [(.norm, ⟨[], [], [.s 4 (.dat .bool)]⟩)]⟩ .no) .no) (.two .no (.two (.two (.two (.cut ⟨⟨[], [], []⟩, [(.norm, ⟨[2, 3], [], [.s 135 (.dat .bool)]⟩)]⟩ .no) .no) (.two (.cut ⟨⟨[], [], []⟩, [(.norm, ⟨[], [], [.s 4 (.dat .bool)]⟩)]⟩ .no) .no)) .no)))))) .no)) .no))))) Tryz.func39 (fun _ _ => by kernel_rfl) rfl (fun v vals x z ha hz => (ZNu x.1 x.2).trans hz)
end Go.Eng
set_option maxRecDepth 100000
set_option maxHeartbeats 4000000
namespace Go.Eng
open Go.Proofs Go.RowKit
noncomputable def Zim:FuncId×Con:=(8,⟨[],[.bool],fun _=>Z6h⟩)
theorem Zzw  : Zk ⟨Tryz.prog,[(39,0),(41,2),(43,3),(91,1),(93,4)],[ZFf,Z5e,ZPg,ZNh,Zsl,Zsk,Zfh,ZVj],[],[],[],[],[]⟩ [] Tryz.f8 (.two .no (.two .no (.two .no (.two .no (.two .no (.two .no (.two .no (.two .no (.two (.cut ⟨⟨[],[],[]⟩,[(.norm,⟨[],[],[.s 0 (.dat .bool)]⟩)]⟩ .no) .no))))))))) [] [.bool] ()=Z6h  := by kernel_rfl
theorem ZOv:Zj Tryz.prog Zim.1 Zim.2:=Zn (C:=⟨Tryz.prog,[(39,0),(41,2),(43,3),(91,1),(93,4)],[ZFf,Z5e,ZPg,ZNh,Zsl,Zsk,Zfh,ZVj],[],[],[],[],[]⟩) ⟨Zao,Z3o,Zzr,ZOs,Zru,ZSy,ZEq,Z5w,trivial⟩ trivial trivial trivial (inl:=[]) trivial (ann:=(.two .no (.two .no (.two .no (.two .no (.two .no (.two .no (.two .no (.two .no (.two (.cut ⟨⟨[],[],[]⟩,[(.norm,⟨[],[],[.s 0 (.dat .bool)]⟩)]⟩ .no) .no)))))))))) Tryz.func8 (fun _ _=>by kernel_rfl) rfl (fun v vals x z ha hz=>(Zzw ).trans hz)
end Go.Eng
set_option maxRecDepth 100000
set_option maxHeartbeats 4000000
namespace Go.Eng
open Go.Proofs Go.RowKit
noncomputable def Z5j:FuncId×Con:=(13,⟨[.slice (.slice (.leaf 3))],[.int .i64,.int .i64],fun p=>Z1f p⟩)
theorem Rank_i (m:List (List Rat)):Zk ⟨Tryz.prog,[(39,0),(41,2),(43,3),(91,1),(93,4)],[Z5e],[],[],[],[],[]⟩ [] Tryz.f13 .no [.slice (.slice (.leaf 3))] [.int .i64,.int .i64] (m)=Z1f m:=by kernel_rfl
theorem Rank_k:Zj Tryz.prog Z5j.1 Z5j.2:=Zn (C:=⟨Tryz.prog,[(39,0),(41,2),(43,3),(91,1),(93,4)],[Z5e],[],[],[],[],[]⟩) ⟨Z3o,trivial⟩ trivial trivial trivial (inl:=[]) trivial (ann:=.no) Tryz.func13 (fun _ _=>by kernel_rfl) rfl (fun v vals x z ha hz=>(Rank_i x).trans hz)
end Go.Eng
set_option maxRecDepth 100000
set_option maxHeartbeats 4000000
namespace Go.Eng
open Go.Proofs Go.RowKit
noncomputable def ZFl:FuncId×Con:=(51,⟨[.slice (.slice (.leaf 3)),.slice (.slice (.leaf 3))],[.slice (.slice (.leaf 3))],fun p=>Zii p.1 p.2⟩)
theorem Z6v (m:List (List Rat)) (b:List (List Rat)):Zk ⟨Tryz.prog,[(39,0),(41,2),(43,3),(91,1),(93,4)],[],[8],[ZId],[],[],[]⟩ [(95,Tryz.f95,.two .no (.two .no (.two (.two .no (.two (.cut ⟨⟨[3,9,10],[],[.s 11 (.dat (.int .i64)),.l (.sl 3) (.mat 30 43 (.leaf 3))]⟩,[(.exit 0,⟨[3],[],[.l (.sl 3) (.mat 30 43 (.leaf 3))]⟩)]⟩ .no) .no)) .no)))] Tryz.f51 (.two .no (.two .no (.two (.two .no (.two (.cut ⟨⟨[1,5,10],[],[.s 11 (.dat (.int .i64)),.l (.sl 5) (.mat 30 43 (.leaf 3))]⟩,[(.exit 0,⟨[5],[],[.l (.sl 5) (.mat 30 43 (.leaf 3))]⟩)]⟩ .no) .no)) .no))) [.slice (.slice (.leaf 3)),.slice (.slice (.leaf 3))] [.slice (.slice (.leaf 3))] (m,b)=Zii m b:=by kernel_rfl
theorem ZRt:Zj Tryz.prog ZFl.1 ZFl.2:=Zn (C:=⟨Tryz.prog,[(39,0),(41,2),(43,3),(91,1),(93,4)],[],[8],[ZId],[],[],[]⟩) trivial ⟨Zpk,trivial⟩ trivial trivial (inl:=[(95,Tryz.f95,.two .no (.two .no (.two (.two .no (.two (.cut ⟨⟨[3,9,10],[],[.s 11 (.dat (.int .i64)),.l (.sl 3) (.mat 30 43 (.leaf 3))]⟩,[(.exit 0,⟨[3],[],[.l (.sl 3) (.mat 30 43 (.leaf 3))]⟩)]⟩ .no) .no)) .no)))]) ⟨⟨Tryz.func95,fun _ _=>by kernel_rfl⟩,trivial⟩ (ann:=(.two .no (.two .no (.two (.two .no (.two (.cut ⟨⟨[1,5,10],[],[.s 11 (.dat (.int .i64)),.l (.sl 5) (.mat 30 43 (.leaf 3))]⟩,[(.exit 0,⟨[5],[],[.l (.sl 5) (.mat 30 43 (.leaf 3))]⟩)]⟩ .no) .no)) .no)))) Tryz.func51 (fun _ _=>by kernel_rfl) rfl (fun v vals x z ha hz=>(Z6v x.1 x.2).trans hz)
end Go.Eng
set_option maxRecDepth 100000
set_option maxHeartbeats 4000000
namespace Go.Eng
open Go.Proofs Go.RowKit
noncomputable def ZYj:FuncId×Con:=(52,⟨[.slice (.leaf 3)],[.slice (.slice (.leaf 3))],fun p=>Zkj p⟩)
theorem Z7x (b:List Rat):Zk ⟨Tryz.prog,[(39,0),(41,2),(43,3),(91,1),(93,4)],[],[8],[],[],[],[]⟩ [] Tryz.f52 (.two .no (.two .no (.two (.two .no (.two (.cut ⟨⟨[3,9,10],[],[.s 11 (.dat (.int .i64)),.l (.sl 3) (.mat 30 43 (.leaf 3))]⟩,[(.exit 0,⟨[3],[],[.l (.sl 3) (.mat 30 43 (.leaf 3))]⟩)]⟩ .no) .no)) .no))) [.slice (.leaf 3)] [.slice (.slice (.leaf 3))] (b)=Zkj b:=by kernel_rfl
theorem ZNx:Zj Tryz.prog ZYj.1 ZYj.2:=Zn (C:=⟨Tryz.prog,[(39,0),(41,2),(43,3),(91,1),(93,4)],[],[8],[],[],[],[]⟩) trivial trivial trivial trivial (inl:=[]) trivial (ann:=(.two .no (.two .no (.two (.two .no (.two (.cut ⟨⟨[3,9,10],[],[.s 11 (.dat (.int .i64)),.l (.sl 3) (.mat 30 43 (.leaf 3))]⟩,[(.exit 0,⟨[3],[],[.l (.sl 3) (.mat 30 43 (.leaf 3))]⟩)]⟩ .no) .no)) .no)))) Tryz.func52 (fun _ _=>by kernel_rfl) rfl (fun v vals x z ha hz=>(Z7x x).trans hz)
end Go.Eng
set_option maxRecDepth 100000
set_option maxHeartbeats 4000000
namespace Go.Eng
open Go.Proofs Go.RowKit
noncomputable def Znm:FuncId×Con:=(18,⟨[.slice (.slice (.leaf 3)),.slice (.leaf 3)],[.slice (.leaf 3),.int .i64],fun p=>ZZc p.1 p.2⟩)
theorem Any_i (m:List (List Rat)) (b:List Rat):Zk ⟨Tryz.prog,[(39,0),(41,2),(43,3),(91,1),(93,4)],[Zgf,Zof,Znf,Z9b,ZFl,ZYj],[],[ZPf],[],[],[]⟩ [(49,Tryz.f49,.no)] Tryz.f18 (.two .no (.two (.two (.cut ⟨⟨[],[],[]⟩,[(.norm,⟨[0,1],[],[.s 23 (.dat .bool)]⟩)]⟩ .no) .no) (.two .no (.two .no (.two (.two .no (.two (.cut ⟨⟨[],[],[]⟩,[(.norm,⟨[6,7,8],[],[.s 47 (.dat .bool)]⟩)]⟩ .no) .no)) (.two .no (.two (.two .no (.two (.cut ⟨⟨[6,7,11,50,51],[],[.s 52 (.dat (.int .i64)),.l (.sl 11) (.own 43 (.leaf 3))]⟩,[(.exit 0,⟨[11],[],[.l (.sl 11) (.own 43 (.leaf 3))]⟩)]⟩ .no) .no)) .no))))))) [.slice (.slice (.leaf 3)),.slice (.leaf 3)] [.slice (.leaf 3),.int .i64] (m,b)=ZZc m b:=by kernel_rfl
theorem Any_k:Zj Tryz.prog Znm.1 Znm.2:=Zn (C:=⟨Tryz.prog,[(39,0),(41,2),(43,3),(91,1),(93,4)],[Zgf,Zof,Znf,Z9b,ZFl,ZYj],[],[ZPf],[],[],[]⟩) ⟨ZVo,Z3n,Zkn,Zjh,ZRt,ZNx,trivial⟩ ⟨Zin,trivial⟩ trivial trivial (inl:=[(49,Tryz.f49,.no)]) ⟨⟨Tryz.func49,fun _ _=>by kernel_rfl⟩,trivial⟩ (ann:=(.two .no (.two (.two (.cut ⟨⟨[],[],[]⟩,[(.norm,⟨[0,1],[],[.s 23 (.dat .bool)]⟩)]⟩ .no) .no) (.two .no (.two .no (.two (.two .no (.two (.cut ⟨⟨[],[],[]⟩,[(.norm,⟨[6,7,8],[],[.s 47 (.dat .bool)]⟩)]⟩ .no) .no)) (.two .no (.two (.two .no (.two (.cut ⟨⟨[6,7,11,50,51],[],[.s 52 (.dat (.int .i64)),.l (.sl 11) (.own 43 (.leaf 3))]⟩,[(.exit 0,⟨[11],[],[.l (.sl 11) (.own 43 (.leaf 3))]⟩)]⟩ .no) .no)) .no)))))))) Tryz.func18 (fun _ _=>by kernel_rfl) rfl (fun v vals x z ha hz=>(Any_i x.1 x.2).trans hz)
end Go.Eng
set_option maxRecDepth 100000
set_option maxHeartbeats 4000000
namespace Go.Eng
open Go.Proofs Go.RowKit
noncomputable def Z0k:FuncId×Con:=(61,⟨[.slice (.pair (.int .i64) (.int .i64))],[.bool],fun p=>ZJf p⟩)
theorem Z1y (l:List (Int×Int)):Zk ⟨Tryz.prog,[(39,0),(41,2),(43,3),(91,1),(93,4)],[],[],[],[],[],[]⟩ [] Tryz.f61 (.two .no (.two (.two .no (.two (.cut ⟨⟨[5,6],[],[.s 7 (.dat (.int .i64))]⟩,[(.exit 0,⟨[],[],[]⟩),(.ret,⟨[],[],[.s 1000 (.dat .bool)]⟩)]⟩ (.two (.two .no (.two .no (.two (.two (.two .no (.two (.cut ⟨⟨[],[],[]⟩,[(.norm,⟨[5,6,7],[],[.s 24 (.dat .bool)]⟩)]⟩ .no) .no)) .no) .no))) .no)) .no)) .no)) [.slice (.pair (.int .i64) (.int .i64))] [.bool] (l)=ZJf l:=by kernel_rfl
theorem Zsx:Zj Tryz.prog Z0k.1 Z0k.2:=Zn (C:=⟨Tryz.prog,[(39,0),(41,2),(43,3),(91,1),(93,4)],[],[],[],[],[],[]⟩) trivial trivial trivial trivial (inl:=[]) trivial (ann:=(.two .no (.two (.two .no (.two (.cut ⟨⟨[5,6],[],[.s 7 (.dat (.int .i64))]⟩,[(.exit 0,⟨[],[],[]⟩),(.ret,⟨[],[],[.s 1000 (.dat .bool)]⟩)]⟩ (.two (.two .no (.two .no (.two (.two (.two .no (.two (.cut ⟨⟨[],[],[]⟩,[(.norm,⟨[5,6,7],[],[.s 24 (.dat .bool)]⟩)]⟩ .no) .no)) .no) .no))) .no)) .no)) .no))) Tryz.func61 (fun _ _=>by kernel_rfl) rfl (fun v vals x z ha hz=>(Z1y x).trans hz)
end Go.Eng
set_option maxRecDepth 100000
set_option maxHeartbeats 4000000
namespace Go.Eng
open Go.Proofs Go.RowKit
noncomputable def Zum:FuncId×Con:=(25,⟨[.slice (.slice (.pair (.int .i64) (.int .i64)))],[.bool],fun p=>Zej p⟩)
theorem few2_i (m:List (List (Int×Int))):Zk ⟨Tryz.prog,[(39,0),(41,2),(43,3),(91,1),(93,4)],[Z0k],[],[],[],[],[]⟩ [] Tryz.f25 (.two .no (.two (.two .no (.two (.two (.cut ⟨⟨[],[],[]⟩,[(.norm,⟨[],[],[.s 2 (.dat .bool)]⟩)]⟩ .no) .no) .no)) (.two (.two .no (.two (.cut ⟨⟨[0,16,17],[],[.s 18 (.dat (.int .i64))]⟩,[(.exit 0,⟨[],[],[]⟩),(.ret,⟨[],[],[.s 1000 (.dat .bool)]⟩)]⟩ (.two (.two .no (.two .no (.two (.two (.two .no (.two (.cut ⟨⟨[],[],[]⟩,[(.norm,⟨[0,16,17,18],[],[.s 44 (.dat .bool)]⟩)]⟩ .no) .no)) .no) .no))) .no)) .no)) .no))) [.slice (.slice (.pair (.int .i64) (.int .i64)))] [.bool] (m)=Zej m:=by kernel_rfl
theorem few2_k:Zj Tryz.prog Zum.1 Zum.2:=Zn (C:=⟨Tryz.prog,[(39,0),(41,2),(43,3),(91,1),(93,4)],[Z0k],[],[],[],[],[]⟩) ⟨Zsx,trivial⟩ trivial trivial trivial (inl:=[]) trivial (ann:=(.two .no (.two (.two .no (.two (.two (.cut ⟨⟨[],[],[]⟩,[(.norm,⟨[],[],[.s 2 (.dat .bool)]⟩)]⟩ .no) .no) .no)) (.two (.two .no (.two (.cut ⟨⟨[0,16,17],[],[.s 18 (.dat (.int .i64))]⟩,[(.exit 0,⟨[],[],[]⟩),(.ret,⟨[],[],[.s 1000 (.dat .bool)]⟩)]⟩ (.two (.two .no (.two .no (.two (.two (.two .no (.two (.cut ⟨⟨[],[],[]⟩,[(.norm,⟨[0,16,17,18],[],[.s 44 (.dat .bool)]⟩)]⟩ .no) .no)) .no) .no))) .no)) .no)) .no)))) Tryz.func25 (fun _ _=>by kernel_rfl) rfl (fun v vals x z ha hz=>(few2_i x).trans hz)
end Go.Eng
set_option maxRecDepth 100000
set_option maxHeartbeats 4000000
namespace Go.Eng
open Go.Proofs Go.RowKit
noncomputable def Zxf:FuncId×Con:=(63,⟨[.slice (.slice (.pair (.pair (.leaf 4) (.pair (.leaf 4) (.pair (.leaf 4) (.leaf 4)))) (.pair (.leaf 4) (.pair (.leaf 4) (.pair (.leaf 4) (.leaf 4))))))],[.bool],fun p=>Zre p⟩)
theorem ZAu (m:List (List ((Rat×Rat×Rat×Rat)×Rat×Rat×Rat×Rat))):Zk ⟨Tryz.prog,[(39,0),(41,2),(43,3),(91,1),(93,4)],[],[],[],[],[],[]⟩ [] Tryz.f63 (.two .no (.two (.two .no (.two (.cut ⟨⟨[0],[],[.s 3 (.dat (.int .i64))]⟩,[(.exit 0,⟨[0],[],[]⟩),(.ret,⟨[],[],[.s 1000 (.dat .bool)]⟩)]⟩ (.two (.two .no (.two (.two (.two (.cut ⟨⟨[],[],[]⟩,[(.norm,⟨[0,3],[],[.s 27 (.dat .bool)]⟩)]⟩ .no) .no) .no) .no)) .no)) .no)) .no)) [.slice (.slice (.pair (.pair (.leaf 4) (.pair (.leaf 4) (.pair (.leaf 4) (.leaf 4)))) (.pair (.leaf 4) (.pair (.leaf 4) (.pair (.leaf 4) (.leaf 4))))))] [.bool] (m)=Zre m:=by kernel_rfl
theorem ZYm:Zj Tryz.prog Zxf.1 Zxf.2:=Zn (C:=⟨Tryz.prog,[(39,0),(41,2),(43,3),(91,1),(93,4)],[],[],[],[],[],[]⟩) trivial trivial trivial trivial (inl:=[]) trivial (ann:=(.two .no (.two (.two .no (.two (.cut ⟨⟨[0],[],[.s 3 (.dat (.int .i64))]⟩,[(.exit 0,⟨[0],[],[]⟩),(.ret,⟨[],[],[.s 1000 (.dat .bool)]⟩)]⟩ (.two (.two .no (.two (.two (.two (.cut ⟨⟨[],[],[]⟩,[(.norm,⟨[0,3],[],[.s 27 (.dat .bool)]⟩)]⟩ .no) .no) .no) .no)) .no)) .no)) .no))) Tryz.func63 (fun _ _=>by kernel_rfl) rfl (fun v vals x z ha hz=>(ZAu x).trans hz)
theorem ZXy {x y z:Rat} (h:Zia x y=some z):Zlo x y=some z:=by
 unfold Zia at h;split at h
 ·rename_i hh;obtain ⟨⟨a1,a2⟩,b1,b2⟩:=hh
  cases h
  unfold Zlo ZPb;have p1:=ZQb x.num.natAbs y.num.natAbs;have p3:=ZQb x.den y.den;have e1:Zra x.num.natAbs y.num.natAbs=some (x.num.natAbs*y.num.natAbs):=by unfold Zra;rw [if_pos ⟨Zrb (by omega),Zrb (by omega)⟩]
  have e3:Zra x.den y.den=some (x.den*y.den):=by unfold Zra;rw [if_pos ⟨Zrb (by omega),Zrb (by omega)⟩]
  rw [e1,Za,Za,Za,e3,Za];unfold Zgb;rw [if_pos ⟨Znd (by omega),Znd (by omega),Nat.mul_ne_zero x.den_nz y.den_nz⟩,Za];have e:sgn ((decide (x.num<0)) != (decide (y.num<0))) (x.num.natAbs*y.num.natAbs)=x.num*y.num:=by
   have eN:((x.num.natAbs*y.num.natAbs:Nat):Int)=(x.num.natAbs:Int)*y.num.natAbs:=by simp
   unfold sgn;rw [eN];by_cases h:x.num<0
   ·have hx:(x.num.natAbs:Int) = -x.num:=by omega
    by_cases h2:y.num<0
    ·have hy:(y.num.natAbs:Int) = -y.num:=by omega
     simp [h,h2,hx,hy,Int.neg_mul,Int.mul_neg]
    ·have hy:(y.num.natAbs:Int)=y.num:=by omega
     simp [h,h2,hx,hy,Int.neg_mul,Int.mul_neg]
   ·have hx:(x.num.natAbs:Int)=x.num:=by omega
    by_cases h2:y.num<0
    ·have hy:(y.num.natAbs:Int) = -y.num:=by omega
     simp [h,h2,hx,hy,Int.neg_mul,Int.mul_neg]
    ·have hy:(y.num.natAbs:Int)=y.num:=by omega
     simp [h,h2,hx,hy,Int.neg_mul,Int.mul_neg]
  rw [e,← Rat.mul_def']
 ·cases h
end Go.Eng
set_option maxRecDepth 100000
set_option maxHeartbeats 4000000
namespace Go.Eng
open Go.Proofs Go.RowKit
noncomputable def ZEm:FuncId×Con:=(179,⟨[.leaf 4,.leaf 4],[.leaf 4],fun p=>Zia p.1 p.2⟩)
theorem rmul_i (x:Rat) (y:Rat):Zk ⟨Tryz.prog,[(91,1),(93,4)],[Zmc,ZWc,ZCd],[],[],[],[],[]⟩ [] Tryz.f179 .no [.leaf 4,.leaf 4] [.leaf 4] (x,y)=Zlo x y:=by kernel_rfl
theorem rmul_k:Zj Tryz.prog ZEm.1 ZEm.2:=Zn (C:=⟨Tryz.prog,[(91,1),(93,4)],[Zmc,ZWc,ZCd],[],[],[],[],[]⟩) ⟨Zci,Zdj,Zom,trivial⟩ trivial trivial trivial (inl:=[]) trivial (ann:=.no) Tryz.func179 (fun _ _=>by kernel_rfl) rfl fun v vals x z ha hz=>(rmul_i x.1 x.2).trans (ZXy hz)
end Go.Eng
set_option maxRecDepth 100000
set_option maxHeartbeats 4000000
namespace Go.Eng
open Go.Proofs Go.RowKit
noncomputable def Z9e:FuncId×Con:=(149,⟨[.pair (.leaf 4) (.pair (.leaf 4) (.pair (.leaf 4) (.leaf 4))),.pair (.leaf 4) (.pair (.leaf 4) (.pair (.leaf 4) (.leaf 4)))],[.pair (.leaf 4) (.pair (.leaf 4) (.pair (.leaf 4) (.leaf 4)))],fun p=>Zhc p.1 p.2⟩)
theorem sMul_i (x:Rat×Rat×Rat×Rat) (y:Rat×Rat×Rat×Rat):Zk ⟨Tryz.prog,[(39,0),(41,2),(43,3),(91,1),(93,4)],[Z7d,ZWa,ZEm,Z0h],[],[],[],[],[]⟩ [] Tryz.f149 (.two .no (.two .no (.two (.two .no (.two (.unroll 5 (.two (.two .no (.two (.two (.two .no (.two (.unroll 5 .no) .no)) .no) .no)) .no)) .no)) .no))) [.pair (.leaf 4) (.pair (.leaf 4) (.pair (.leaf 4) (.leaf 4))),.pair (.leaf 4) (.pair (.leaf 4) (.pair (.leaf 4) (.leaf 4)))] [.pair (.leaf 4) (.pair (.leaf 4) (.pair (.leaf 4) (.leaf 4)))] (x,y)=Zhc x y:=by kernel_rfl
theorem Z6n:Zj Tryz.prog Z9e.1 Z9e.2:=Zn (C:=⟨Tryz.prog,[(39,0),(41,2),(43,3),(91,1),(93,4)],[Z7d,ZWa,ZEm,Z0h],[],[],[],[],[]⟩) ⟨Zhk,Z8d,rmul_k,Zyr,trivial⟩ trivial trivial trivial (inl:=[]) trivial (ann:=(.two .no (.two .no (.two (.two .no (.two (.unroll 5 (.two (.two .no (.two (.two (.two .no (.two (.unroll 5 .no) .no)) .no) .no)) .no)) .no)) .no)))) Tryz.func149 (fun _ _=>by kernel_rfl) rfl (fun v vals x z ha hz=>(sMul_i x.1 x.2).trans hz)
end Go.Eng
set_option maxRecDepth 100000
set_option maxHeartbeats 4000000
namespace Go.Eng
open Go.Proofs Go.RowKit
noncomputable def Z6g:FuncId×Con:=(112,⟨[.pair (.pair (.leaf 4) (.pair (.leaf 4) (.pair (.leaf 4) (.leaf 4)))) (.pair (.leaf 4) (.pair (.leaf 4) (.pair (.leaf 4) (.leaf 4)))),.pair (.pair (.leaf 4) (.pair (.leaf 4) (.pair (.leaf 4) (.leaf 4)))) (.pair (.leaf 4) (.pair (.leaf 4) (.pair (.leaf 4) (.leaf 4))))],[.pair (.pair (.leaf 4) (.pair (.leaf 4) (.pair (.leaf 4) (.leaf 4)))) (.pair (.leaf 4) (.pair (.leaf 4) (.pair (.leaf 4) (.leaf 4))))],fun p=>ZYg p.1 p.2⟩)
theorem wMul_i (x:(Rat×Rat×Rat×Rat)×Rat×Rat×Rat×Rat) (y:(Rat×Rat×Rat×Rat)×Rat×Rat×Rat×Rat):Zk ⟨Tryz.prog,[(39,0),(41,2),(43,3),(91,1),(93,4)],[Zei,Z9e,ZMf],[],[],[],[],[]⟩ [] Tryz.f112 .no [.pair (.pair (.leaf 4) (.pair (.leaf 4) (.pair (.leaf 4) (.leaf 4)))) (.pair (.leaf 4) (.pair (.leaf 4) (.pair (.leaf 4) (.leaf 4)))),.pair (.pair (.leaf 4) (.pair (.leaf 4) (.pair (.leaf 4) (.leaf 4)))) (.pair (.leaf 4) (.pair (.leaf 4) (.pair (.leaf 4) (.leaf 4))))] [.pair (.pair (.leaf 4) (.pair (.leaf 4) (.pair (.leaf 4) (.leaf 4)))) (.pair (.leaf 4) (.pair (.leaf 4) (.pair (.leaf 4) (.leaf 4))))] (x,y)=ZYg x y:=by kernel_rfl
theorem ZDs:Zj Tryz.prog Z6g.1 Z6g.2:=Zn (C:=⟨Tryz.prog,[(39,0),(41,2),(43,3),(91,1),(93,4)],[Zei,Z9e,ZMf],[],[],[],[],[]⟩) ⟨Zaq,Z6n,ZYn,trivial⟩ trivial trivial trivial (inl:=[]) trivial (ann:=.no) Tryz.func112 (fun _ _=>by kernel_rfl) rfl (fun v vals x z ha hz=>(wMul_i x.1 x.2).trans hz)
end Go.Eng
set_option maxRecDepth 100000
set_option maxHeartbeats 4000000
namespace Go.Eng
open Go.Proofs Go.RowKit
noncomputable def Zkk:FuncId×Con:=(151,⟨[.pair (.pair (.leaf 4) (.pair (.leaf 4) (.pair (.leaf 4) (.leaf 4)))) (.pair (.leaf 4) (.pair (.leaf 4) (.pair (.leaf 4) (.leaf 4))))],[.pair (.pair (.leaf 4) (.pair (.leaf 4) (.pair (.leaf 4) (.leaf 4)))) (.pair (.leaf 4) (.pair (.leaf 4) (.pair (.leaf 4) (.leaf 4))))],fun p=>ZSi p⟩)
theorem wConj_i (x:(Rat×Rat×Rat×Rat)×Rat×Rat×Rat×Rat):Zk ⟨Tryz.prog,[(39,0),(41,2),(43,3),(91,1),(93,4)],[ZZe],[],[],[],[],[]⟩ [] Tryz.f151 .no [.pair (.pair (.leaf 4) (.pair (.leaf 4) (.pair (.leaf 4) (.leaf 4)))) (.pair (.leaf 4) (.pair (.leaf 4) (.pair (.leaf 4) (.leaf 4))))] [.pair (.pair (.leaf 4) (.pair (.leaf 4) (.pair (.leaf 4) (.leaf 4)))) (.pair (.leaf 4) (.pair (.leaf 4) (.pair (.leaf 4) (.leaf 4))))] (x)=ZSi x:=by kernel_rfl
theorem wConj_k:Zj Tryz.prog Zkk.1 Zkk.2:=Zn (C:=⟨Tryz.prog,[(39,0),(41,2),(43,3),(91,1),(93,4)],[ZZe],[],[],[],[],[]⟩) ⟨Zro,trivial⟩ trivial trivial trivial (inl:=[]) trivial (ann:=.no) Tryz.func151 (fun _ _=>by kernel_rfl) rfl (fun v vals x z ha hz=>(wConj_i x).trans hz)
end Go.Eng
set_option maxRecDepth 100000
set_option maxHeartbeats 4000000
namespace Go.Eng
open Go.Proofs Go.RowKit
noncomputable def Z1j:FuncId×Con:=(191,⟨[.pair (.leaf 4) (.pair (.leaf 4) (.pair (.leaf 4) (.leaf 4))),.int .i64],[.pair (.leaf 4) (.pair (.leaf 4) (.pair (.leaf 4) (.leaf 4)))],fun p=>ZYe p.1 p.2⟩)
theorem ZLw (x:Rat×Rat×Rat×Rat) (bit:Int):Zk ⟨Tryz.prog,[(39,0),(41,2),(43,3),(91,1),(93,4)],[Z2g],[],[],[],[],[]⟩ [] Tryz.f191 (.two .no (.two (.two .no (.two (.unroll 5 (.two (.two .no (.two (.two (.two .no (.cut ⟨⟨[],[],[]⟩,[(.norm,⟨[1,2,4,5],[],[.l (.sl 2) (.box 95 (.dat (.pair (.leaf 4) (.pair (.leaf 4) (.pair (.leaf 4) (.leaf 4))))))]⟩)]⟩ .no)) .no) .no)) .no)) .no)) .no)) [.pair (.leaf 4) (.pair (.leaf 4) (.pair (.leaf 4) (.leaf 4))),.int .i64] [.pair (.leaf 4) (.pair (.leaf 4) (.pair (.leaf 4) (.leaf 4)))] (x,bit)=ZYe x bit:=by kernel_rfl
theorem ZYw:Zj Tryz.prog Z1j.1 Z1j.2:=Zn (C:=⟨Tryz.prog,[(39,0),(41,2),(43,3),(91,1),(93,4)],[Z2g],[],[],[],[],[]⟩) ⟨ZZr,trivial⟩ trivial trivial trivial (inl:=[]) trivial (ann:=(.two .no (.two (.two .no (.two (.unroll 5 (.two (.two .no (.two (.two (.two .no (.cut ⟨⟨[],[],[]⟩,[(.norm,⟨[1,2,4,5],[],[.l (.sl 2) (.box 95 (.dat (.pair (.leaf 4) (.pair (.leaf 4) (.pair (.leaf 4) (.leaf 4))))))]⟩)]⟩ .no)) .no) .no)) .no)) .no)) .no))) Tryz.func191 (fun _ _=>by kernel_rfl) rfl (fun v vals x z ha hz=>(ZLw x.1 x.2).trans hz)
noncomputable def Z2m (x:Rat) (y:Rat):Option (Rat×Int) :=
 bnd (Zsc y) fun a =>
 ifb (a)
 (bnd (Zea (0:Int)) fun b =>
 some ((b,(3:Int))))
 (bnd (ZPb y) fun c =>
 bnd (Zra x.num.natAbs c) fun d =>
 bnd (ZPb x) fun e =>
 bnd (Zra e y.num.natAbs) fun f =>
 bnd (Zgb ((decide (x.num<0)) != (decide (y.num<0))) d f) fun g =>
 some ((g,(0:Int))))
theorem Zwu {x y:Rat} {z:Rat×Int} (h:ZBi x y=some z):Z2m x y=some z:=by
 unfold ZBi at h;split at h
 ·rename_i hh;obtain ⟨⟨a1,a2⟩,b1,b2⟩:=hh
  cases h
  unfold Z2m Zsc;rw [Za];by_cases h0:y=0
  ·subst h0;rfl
  ·rw [decide_eq_false h0,Ze,if_neg h0];unfold ZPb;have hn:=Zwq h0;have p1:=ZQb x.num.natAbs y.den;have p3:=ZQb x.den y.num.natAbs;have e1:Zra x.num.natAbs y.den=some (x.num.natAbs*y.den):=by unfold Zra;rw [if_pos ⟨Zrb (by omega),Zrb (by omega)⟩]
   have e3:Zra x.den y.num.natAbs=some (x.den*y.num.natAbs):=by unfold Zra;rw [if_pos ⟨Zrb (by omega),Zrb (by omega)⟩]
   rw [Za,e1,Za,Za,e3,Za];unfold Zgb;rw [if_pos ⟨Znd (by omega),Znd (by omega),Nat.mul_ne_zero x.den_nz (by omega)⟩,Za];have e:sgn ((decide (x.num<0)) != (decide (y.num<0))) (x.num.natAbs*y.den)=if y.num<0 then -(x.num*(y.den:Int)) else x.num*(y.den:Int):=by
    have eN:((x.num.natAbs*y.den:Nat):Int)=(x.num.natAbs:Int)*y.den:=by simp
    unfold sgn;rw [eN];by_cases h:x.num<0
    ·have hx:(x.num.natAbs:Int) = -x.num:=by omega
     by_cases h2:y.num<0 <;> simp [h,h2,hx,Int.neg_mul]
    ·have hx:(x.num.natAbs:Int)=x.num:=by omega
     by_cases h2:y.num<0 <;> simp [h,h2,hx,Int.neg_mul]
   rw [e,← ZHr h0]
 ·cases h
end Go.Eng
set_option maxRecDepth 100000
set_option maxHeartbeats 4000000
namespace Go.Eng
open Go.Proofs Go.RowKit
noncomputable def Zek:FuncId×Con:=(195,⟨[.leaf 4,.leaf 4],[.leaf 4,.int .i64],fun p=>ZBi p.1 p.2⟩)
theorem rdiv_i (x:Rat) (y:Rat):Zk ⟨Tryz.prog,[(91,1),(93,4)],[ZWa,Zmc,ZKf,ZWc,ZCd],[],[],[],[],[]⟩ [] Tryz.f195 .no [.leaf 4,.leaf 4] [.leaf 4,.int .i64] (x,y)=Z2m x y:=by kernel_rfl
theorem rdiv_k:Zj Tryz.prog Zek.1 Zek.2:=Zn (C:=⟨Tryz.prog,[(91,1),(93,4)],[ZWa,Zmc,ZKf,ZWc,ZCd],[],[],[],[],[]⟩) ⟨Z8d,Zci,ZXo,Zdj,Zom,trivial⟩ trivial trivial trivial (inl:=[]) trivial (ann:=.no) Tryz.func195 (fun _ _=>by kernel_rfl) rfl fun v vals x z ha hz=>(rdiv_i x.1 x.2).trans (Zwu hz)
theorem rbyF_eq {x y z:Rat} (h:ZUd x y=some z):rby_m x y=some z:=by
 unfold ZUd at h;split at h
 ·rename_i hh
  cases h
  unfold rby_m ZBi;rw [if_pos hh,Za];split <;> rfl
 ·cases h
end Go.Eng
set_option maxRecDepth 100000
set_option maxHeartbeats 4000000
namespace Go.Eng
open Go.Proofs Go.RowKit
noncomputable def Ztl:FuncId×Con:=(192,⟨[.leaf 4,.leaf 4],[.leaf 4],fun p=>ZUd p.1 p.2⟩)
theorem rby_i (x:Rat) (y:Rat):Zk ⟨Tryz.prog,[(91,1),(93,4)],[Zek],[],[],[],[],[]⟩ [] Tryz.f192 .no [.leaf 4,.leaf 4] [.leaf 4] (x,y)=rby_m x y:=by kernel_rfl
theorem rby_k:Zj Tryz.prog Ztl.1 Ztl.2:=Zn (C:=⟨Tryz.prog,[(91,1),(93,4)],[Zek],[],[],[],[],[]⟩) ⟨rdiv_k,trivial⟩ trivial trivial trivial (inl:=[]) trivial (ann:=.no) Tryz.func192 (fun _ _=>by kernel_rfl) rfl fun v vals x z ha hz=>(rby_i x.1 x.2).trans (rbyF_eq hz)
end Go.Eng
set_option maxRecDepth 100000
set_option maxHeartbeats 4000000
namespace Go.Eng
open Go.Proofs Go.RowKit
noncomputable def ZIl:FuncId×Con:=(177,⟨[.pair (.leaf 4) (.pair (.leaf 4) (.pair (.leaf 4) (.leaf 4))),.pair (.leaf 4) (.pair (.leaf 4) (.pair (.leaf 4) (.leaf 4)))],[.pair (.leaf 4) (.pair (.leaf 4) (.pair (.leaf 4) (.leaf 4))),.int .i64],fun p=>ZZh p.1 p.2⟩)
theorem sDiv_i (x:Rat×Rat×Rat×Rat) (y:Rat×Rat×Rat×Rat):Zk ⟨Tryz.prog,[(39,0),(41,2),(43,3),(91,1),(93,4)],[Z7d,ZWa,Zbh,Z9e,Z1j,Ztl],[],[],[],[],[]⟩ [] Tryz.f177 .no [.pair (.leaf 4) (.pair (.leaf 4) (.pair (.leaf 4) (.leaf 4))),.pair (.leaf 4) (.pair (.leaf 4) (.pair (.leaf 4) (.leaf 4)))] [.pair (.leaf 4) (.pair (.leaf 4) (.pair (.leaf 4) (.leaf 4))),.int .i64] (x,y)=ZZh x y:=by kernel_rfl
theorem sDiv_k:Zj Tryz.prog ZIl.1 ZIl.2:=Zn (C:=⟨Tryz.prog,[(39,0),(41,2),(43,3),(91,1),(93,4)],[Z7d,ZWa,Zbh,Z9e,Z1j,Ztl],[],[],[],[],[]⟩) ⟨Zhk,Z8d,ZFr,Z6n,ZYw,rby_k,trivial⟩ trivial trivial trivial (inl:=[]) trivial (ann:=.no) Tryz.func177 (fun _ _=>by kernel_rfl) rfl (fun v vals x z ha hz=>(sDiv_i x.1 x.2).trans hz)
end Go.Eng
set_option maxRecDepth 100000
set_option maxHeartbeats 4000000
namespace Go.Eng
open Go.Proofs Go.RowKit
noncomputable def Zol:FuncId×Con:=(178,⟨[.pair (.pair (.leaf 4) (.pair (.leaf 4) (.pair (.leaf 4) (.leaf 4)))) (.pair (.leaf 4) (.pair (.leaf 4) (.pair (.leaf 4) (.leaf 4))))],[.pair (.leaf 4) (.pair (.leaf 4) (.pair (.leaf 4) (.leaf 4)))],fun p=>Zhh p⟩)
theorem wNorm_i (x:(Rat×Rat×Rat×Rat)×Rat×Rat×Rat×Rat):Zk ⟨Tryz.prog,[(39,0),(41,2),(43,3),(91,1),(93,4)],[Z9e,ZMf],[],[],[],[],[]⟩ [] Tryz.f178 .no [.pair (.pair (.leaf 4) (.pair (.leaf 4) (.pair (.leaf 4) (.leaf 4)))) (.pair (.leaf 4) (.pair (.leaf 4) (.pair (.leaf 4) (.leaf 4))))] [.pair (.leaf 4) (.pair (.leaf 4) (.pair (.leaf 4) (.leaf 4)))] (x)=Zhh x:=by kernel_rfl
theorem wNorm_k:Zj Tryz.prog Zol.1 Zol.2:=Zn (C:=⟨Tryz.prog,[(39,0),(41,2),(43,3),(91,1),(93,4)],[Z9e,ZMf],[],[],[],[],[]⟩) ⟨Z6n,ZYn,trivial⟩ trivial trivial trivial (inl:=[]) trivial (ann:=.no) Tryz.func178 (fun _ _=>by kernel_rfl) rfl (fun v vals x z ha hz=>(wNorm_i x).trans hz)
end Go.Eng
set_option maxRecDepth 100000
set_option maxHeartbeats 4000000
namespace Go.Eng
open Go.Proofs Go.RowKit
noncomputable def ZPj:FuncId×Con:=(147,⟨[.pair (.pair (.leaf 4) (.pair (.leaf 4) (.pair (.leaf 4) (.leaf 4)))) (.pair (.leaf 4) (.pair (.leaf 4) (.pair (.leaf 4) (.leaf 4)))),.pair (.pair (.leaf 4) (.pair (.leaf 4) (.pair (.leaf 4) (.leaf 4)))) (.pair (.leaf 4) (.pair (.leaf 4) (.pair (.leaf 4) (.leaf 4))))],[.pair (.pair (.leaf 4) (.pair (.leaf 4) (.pair (.leaf 4) (.leaf 4)))) (.pair (.leaf 4) (.pair (.leaf 4) (.pair (.leaf 4) (.leaf 4)))),.int .i64],fun p=>Zam p.1 p.2⟩)
theorem wDiv_i (x:(Rat×Rat×Rat×Rat)×Rat×Rat×Rat×Rat) (y:(Rat×Rat×Rat×Rat)×Rat×Rat×Rat×Rat):Zk ⟨Tryz.prog,[(39,0),(41,2),(43,3),(91,1),(93,4)],[Z1c,ZQd,ZWa,Z6g,Zkk,ZIl,Zol],[],[],[],[],[]⟩ [] Tryz.f147 .no [.pair (.pair (.leaf 4) (.pair (.leaf 4) (.pair (.leaf 4) (.leaf 4)))) (.pair (.leaf 4) (.pair (.leaf 4) (.pair (.leaf 4) (.leaf 4)))),.pair (.pair (.leaf 4) (.pair (.leaf 4) (.pair (.leaf 4) (.leaf 4)))) (.pair (.leaf 4) (.pair (.leaf 4) (.pair (.leaf 4) (.leaf 4))))] [.pair (.pair (.leaf 4) (.pair (.leaf 4) (.pair (.leaf 4) (.leaf 4)))) (.pair (.leaf 4) (.pair (.leaf 4) (.pair (.leaf 4) (.leaf 4)))),.int .i64] (x,y)=Zam x y:=by kernel_rfl
theorem wDiv_k:Zj Tryz.prog ZPj.1 ZPj.2:=Zn (C:=⟨Tryz.prog,[(39,0),(41,2),(43,3),(91,1),(93,4)],[Z1c,ZQd,ZWa,Z6g,Zkk,ZIl,Zol],[],[],[],[],[]⟩) ⟨Zoj,ZCm,Z8d,ZDs,wConj_k,sDiv_k,wNorm_k,trivial⟩ trivial trivial trivial (inl:=[]) trivial (ann:=.no) Tryz.func147 (fun _ _=>by kernel_rfl) rfl (fun v vals x z ha hz=>(wDiv_i x.1 x.2).trans hz)
end Go.Eng
set_option maxRecDepth 100000
set_option maxHeartbeats 4000000
namespace Go.Eng
open Go.Proofs Go.RowKit
noncomputable def Zck:FuncId×Con:=(110,⟨[.pair (.pair (.leaf 4) (.pair (.leaf 4) (.pair (.leaf 4) (.leaf 4)))) (.pair (.leaf 4) (.pair (.leaf 4) (.pair (.leaf 4) (.leaf 4)))),.pair (.pair (.leaf 4) (.pair (.leaf 4) (.pair (.leaf 4) (.leaf 4)))) (.pair (.leaf 4) (.pair (.leaf 4) (.pair (.leaf 4) (.leaf 4))))],[.pair (.pair (.leaf 4) (.pair (.leaf 4) (.pair (.leaf 4) (.leaf 4)))) (.pair (.leaf 4) (.pair (.leaf 4) (.pair (.leaf 4) (.leaf 4))))],fun p=>ZEj p.1 p.2⟩)
theorem rOver_i (x:(Rat×Rat×Rat×Rat)×Rat×Rat×Rat×Rat) (y:(Rat×Rat×Rat×Rat)×Rat×Rat×Rat×Rat):Zk ⟨Tryz.prog,[(39,0),(41,2),(43,3),(91,1),(93,4)],[ZPj],[],[],[],[],[]⟩ [] Tryz.f110 .no [.pair (.pair (.leaf 4) (.pair (.leaf 4) (.pair (.leaf 4) (.leaf 4)))) (.pair (.leaf 4) (.pair (.leaf 4) (.pair (.leaf 4) (.leaf 4)))),.pair (.pair (.leaf 4) (.pair (.leaf 4) (.pair (.leaf 4) (.leaf 4)))) (.pair (.leaf 4) (.pair (.leaf 4) (.pair (.leaf 4) (.leaf 4))))] [.pair (.pair (.leaf 4) (.pair (.leaf 4) (.pair (.leaf 4) (.leaf 4)))) (.pair (.leaf 4) (.pair (.leaf 4) (.pair (.leaf 4) (.leaf 4))))] (x,y)=ZEj x y:=by kernel_rfl
theorem rOver_k:Zj Tryz.prog Zck.1 Zck.2:=Zn (C:=⟨Tryz.prog,[(39,0),(41,2),(43,3),(91,1),(93,4)],[ZPj],[],[],[],[],[]⟩) ⟨wDiv_k,trivial⟩ trivial trivial trivial (inl:=[]) trivial (ann:=.no) Tryz.func110 (fun _ _=>by kernel_rfl) rfl (fun v vals x z ha hz=>(rOver_i x.1 x.2).trans hz)
end Go.Eng
set_option maxRecDepth 100000
set_option maxHeartbeats 4000000
namespace Go.Eng
open Go.Proofs Go.RowKit
noncomputable def Zbf:FuncId×Con:=(64,⟨[.slice (.slice (.pair (.pair (.leaf 4) (.pair (.leaf 4) (.pair (.leaf 4) (.leaf 4)))) (.pair (.leaf 4) (.pair (.leaf 4) (.pair (.leaf 4) (.leaf 4)))))),.int .i64],[.slice (.slice (.pair (.pair (.leaf 4) (.pair (.leaf 4) (.pair (.leaf 4) (.leaf 4)))) (.pair (.leaf 4) (.pair (.leaf 4) (.pair (.leaf 4) (.leaf 4)))))),.slice (.int .i64)],fun p=>Z6f p.1 p.2⟩)
theorem rForm_i (m:List (List ((Rat×Rat×Rat×Rat)×Rat×Rat×Rat×Rat))) (columns:Int):Zk ⟨Tryz.prog,[(39,0),(41,2),(43,3),(91,1),(93,4)],[ZQd,Zck,Z9h,Z6g],[30,31],[],[],[],[]⟩ [] Tryz.f64 (.two .no (.two .no (.two (.two .no (.two (.cut ⟨⟨[0,1],[],[.s 6 (.mat 31 97 (.pair (.pair (.leaf 4) (.pair (.leaf 4) (.pair (.leaf 4) (.leaf 4)))) (.pair (.leaf 4) (.pair (.leaf 4) (.pair (.leaf 4) (.leaf 4)))))),.s 7 (.dat (.int .i64))]⟩,[(.exit 0,⟨[1],[],[.s 6 (.mat 31 97 (.pair (.pair (.leaf 4) (.pair (.leaf 4) (.pair (.leaf 4) (.leaf 4)))) (.pair (.leaf 4) (.pair (.leaf 4) (.pair (.leaf 4) (.leaf 4))))))]⟩)]⟩ .no) .no)) (.two .no (.two (.two .no (.two (.cut ⟨⟨[1,6],[],[.s 8 (.own 3 (.int .i64)),.s 9 (.dat (.int .i64)),.l (.sl 6) (.mat 31 97 (.pair (.pair (.leaf 4) (.pair (.leaf 4) (.pair (.leaf 4) (.leaf 4)))) (.pair (.leaf 4) (.pair (.leaf 4) (.pair (.leaf 4) (.leaf 4))))))]⟩,[(.exit 2,⟨[6],[],[.s 8 (.own 3 (.int .i64)),.l (.sl 6) (.mat 31 97 (.pair (.pair (.leaf 4) (.pair (.leaf 4) (.pair (.leaf 4) (.leaf 4)))) (.pair (.leaf 4) (.pair (.leaf 4) (.pair (.leaf 4) (.leaf 4))))))]⟩)]⟩ (.two (.two .no (.two (.cut ⟨⟨[],[],[]⟩,[(.norm,⟨[1,6,9],[],[.s 8 (.own 3 (.int .i64)),.l (.sl 6) (.mat 31 97 (.pair (.pair (.leaf 4) (.pair (.leaf 4) (.pair (.leaf 4) (.leaf 4)))) (.pair (.leaf 4) (.pair (.leaf 4) (.pair (.leaf 4) (.leaf 4))))))]⟩)]⟩ (.two (.two .no (.two .no (.two (.two (.cut ⟨⟨[1,6,8,9,10],[],[.s 11 (.dat (.int .i64))]⟩,[(.exit 4,⟨[1,6,8,9,10],[],[.s 11 (.dat (.int .i64))]⟩)]⟩ (.two (.two (.two (.cut ⟨⟨[],[],[]⟩,[(.norm,⟨[1,6,8,9,10,11],[],[.s 53 (.dat .bool)]⟩)]⟩ .no) .no) .no) .no)) .no) (.two .no (.two .no (.two .no (.two (.two .no (.two (.cut ⟨⟨[1,6,8,9,10,12],[],[.s 13 (.dat (.int .i64)),.l (.sl 6) (.mat 31 97 (.pair (.pair (.leaf 4) (.pair (.leaf 4) (.pair (.leaf 4) (.leaf 4)))) (.pair (.leaf 4) (.pair (.leaf 4) (.pair (.leaf 4) (.leaf 4))))))]⟩,[(.exit 6,⟨[1,6,8,9,10],[],[.l (.sl 6) (.mat 31 97 (.pair (.pair (.leaf 4) (.pair (.leaf 4) (.pair (.leaf 4) (.leaf 4)))) (.pair (.leaf 4) (.pair (.leaf 4) (.pair (.leaf 4) (.leaf 4))))))]⟩)]⟩ .no) .no)) (.two (.two .no (.two (.cut ⟨⟨[1,6,8,9,10],[],[.s 14 (.dat (.int .i64)),.l (.sl 6) (.mat 31 97 (.pair (.pair (.leaf 4) (.pair (.leaf 4) (.pair (.leaf 4) (.leaf 4)))) (.pair (.leaf 4) (.pair (.leaf 4) (.pair (.leaf 4) (.leaf 4))))))]⟩,[(.exit 8,⟨[1,6,8,9],[],[.l (.sl 6) (.mat 31 97 (.pair (.pair (.leaf 4) (.pair (.leaf 4) (.pair (.leaf 4) (.leaf 4)))) (.pair (.leaf 4) (.pair (.leaf 4) (.pair (.leaf 4) (.leaf 4))))))]⟩)]⟩ (.two (.two .no (.two (.cut ⟨⟨[],[],[]⟩,[(.norm,⟨[1,6,8,9,10,14],[],[.l (.sl 6) (.mat 31 97 (.pair (.pair (.leaf 4) (.pair (.leaf 4) (.pair (.leaf 4) (.leaf 4)))) (.pair (.leaf 4) (.pair (.leaf 4) (.pair (.leaf 4) (.leaf 4))))))]⟩)]⟩ (.two (.two .no (.two .no (.two .no (.two (.cut ⟨⟨[1,6,8,9,10,14,15],[],[.s 16 (.dat (.int .i64)),.l (.sl 6) (.mat 31 97 (.pair (.pair (.leaf 4) (.pair (.leaf 4) (.pair (.leaf 4) (.leaf 4)))) (.pair (.leaf 4) (.pair (.leaf 4) (.pair (.leaf 4) (.leaf 4))))))]⟩,[(.exit 10,⟨[1,6,8,9,10,14],[],[.l (.sl 6) (.mat 31 97 (.pair (.pair (.leaf 4) (.pair (.leaf 4) (.pair (.leaf 4) (.leaf 4)))) (.pair (.leaf 4) (.pair (.leaf 4) (.pair (.leaf 4) (.leaf 4))))))]⟩)]⟩ .no) .no)))) .no)) .no)) .no)) .no)) .no)))))))) .no)) .no)) .no)) .no)) .no))))) [.slice (.slice (.pair (.pair (.leaf 4) (.pair (.leaf 4) (.pair (.leaf 4) (.leaf 4)))) (.pair (.leaf 4) (.pair (.leaf 4) (.pair (.leaf 4) (.leaf 4)))))),.int .i64] [.slice (.slice (.pair (.pair (.leaf 4) (.pair (.leaf 4) (.pair (.leaf 4) (.leaf 4)))) (.pair (.leaf 4) (.pair (.leaf 4) (.pair (.leaf 4) (.leaf 4)))))),.slice (.int .i64)] (m,columns)=Z6f m columns:=by kernel_rfl
theorem ZZm:Zj Tryz.prog Zbf.1 Zbf.2:=Zn (C:=⟨Tryz.prog,[(39,0),(41,2),(43,3),(91,1),(93,4)],[ZQd,Zck,Z9h,Z6g],[30,31],[],[],[],[]⟩) ⟨ZCm,rOver_k,ZKp,ZDs,trivial⟩ trivial trivial trivial (inl:=[]) trivial (ann:=(.two .no (.two .no (.two (.two .no (.two (.cut ⟨⟨[0,1],[],[.s 6 (.mat 31 97 (.pair (.pair (.leaf 4) (.pair (.leaf 4) (.pair (.leaf 4) (.leaf 4)))) (.pair (.leaf 4) (.pair (.leaf 4) (.pair (.leaf 4) (.leaf 4)))))),.s 7 (.dat (.int .i64))]⟩,[(.exit 0,⟨[1],[],[.s 6 (.mat 31 97 (.pair (.pair (.leaf 4) (.pair (.leaf 4) (.pair (.leaf 4) (.leaf 4)))) (.pair (.leaf 4) (.pair (.leaf 4) (.pair (.leaf 4) (.leaf 4))))))]⟩)]⟩ .no) .no)) (.two .no (.two (.two .no (.two (.cut ⟨⟨[1,6],[],[.s 8 (.own 3 (.int .i64)),.s 9 (.dat (.int .i64)),.l (.sl 6) (.mat 31 97 (.pair (.pair (.leaf 4) (.pair (.leaf 4) (.pair (.leaf 4) (.leaf 4)))) (.pair (.leaf 4) (.pair (.leaf 4) (.pair (.leaf 4) (.leaf 4))))))]⟩,[(.exit 2,⟨[6],[],[.s 8 (.own 3 (.int .i64)),.l (.sl 6) (.mat 31 97 (.pair (.pair (.leaf 4) (.pair (.leaf 4) (.pair (.leaf 4) (.leaf 4)))) (.pair (.leaf 4) (.pair (.leaf 4) (.pair (.leaf 4) (.leaf 4))))))]⟩)]⟩ (.two (.two .no (.two (.cut ⟨⟨[],[],[]⟩,[(.norm,⟨[1,6,9],[],[.s 8 (.own 3 (.int .i64)),.l (.sl 6) (.mat 31 97 (.pair (.pair (.leaf 4) (.pair (.leaf 4) (.pair (.leaf 4) (.leaf 4)))) (.pair (.leaf 4) (.pair (.leaf 4) (.pair (.leaf 4) (.leaf 4))))))]⟩)]⟩ (.two (.two .no (.two .no (.two (.two (.cut ⟨⟨[1,6,8,9,10],[],[.s 11 (.dat (.int .i64))]⟩,[(.exit 4,⟨[1,6,8,9,10],[],[.s 11 (.dat (.int .i64))]⟩)]⟩ (.two (.two (.two (.cut ⟨⟨[],[],[]⟩,[(.norm,⟨[1,6,8,9,10,11],[],[.s 53 (.dat .bool)]⟩)]⟩ .no) .no) .no) .no)) .no) (.two .no (.two .no (.two .no (.two (.two .no (.two (.cut ⟨⟨[1,6,8,9,10,12],[],[.s 13 (.dat (.int .i64)),.l (.sl 6) (.mat 31 97 (.pair (.pair (.leaf 4) (.pair (.leaf 4) (.pair (.leaf 4) (.leaf 4)))) (.pair (.leaf 4) (.pair (.leaf 4) (.pair (.leaf 4) (.leaf 4))))))]⟩,[(.exit 6,⟨[1,6,8,9,10],[],[.l (.sl 6) (.mat 31 97 (.pair (.pair (.leaf 4) (.pair (.leaf 4) (.pair (.leaf 4) (.leaf 4)))) (.pair (.leaf 4) (.pair (.leaf 4) (.pair (.leaf 4) (.leaf 4))))))]⟩)]⟩ .no) .no)) (.two (.two .no (.two (.cut ⟨⟨[1,6,8,9,10],[],[.s 14 (.dat (.int .i64)),.l (.sl 6) (.mat 31 97 (.pair (.pair (.leaf 4) (.pair (.leaf 4) (.pair (.leaf 4) (.leaf 4)))) (.pair (.leaf 4) (.pair (.leaf 4) (.pair (.leaf 4) (.leaf 4))))))]⟩,[(.exit 8,⟨[1,6,8,9],[],[.l (.sl 6) (.mat 31 97 (.pair (.pair (.leaf 4) (.pair (.leaf 4) (.pair (.leaf 4) (.leaf 4)))) (.pair (.leaf 4) (.pair (.leaf 4) (.pair (.leaf 4) (.leaf 4))))))]⟩)]⟩ (.two (.two .no (.two (.cut ⟨⟨[],[],[]⟩,[(.norm,⟨[1,6,8,9,10,14],[],[.l (.sl 6) (.mat 31 97 (.pair (.pair (.leaf 4) (.pair (.leaf 4) (.pair (.leaf 4) (.leaf 4)))) (.pair (.leaf 4) (.pair (.leaf 4) (.pair (.leaf 4) (.leaf 4))))))]⟩)]⟩ (.two (.two .no (.two .no (.two .no (.two (.cut ⟨⟨[1,6,8,9,10,14,15],[],[.s 16 (.dat (.int .i64)),.l (.sl 6) (.mat 31 97 (.pair (.pair (.leaf 4) (.pair (.leaf 4) (.pair (.leaf 4) (.leaf 4)))) (.pair (.leaf 4) (.pair (.leaf 4) (.pair (.leaf 4) (.leaf 4))))))]⟩,[(.exit 10,⟨[1,6,8,9,10,14],[],[.l (.sl 6) (.mat 31 97 (.pair (.pair (.leaf 4) (.pair (.leaf 4) (.pair (.leaf 4) (.leaf 4)))) (.pair (.leaf 4) (.pair (.leaf 4) (.pair (.leaf 4) (.leaf 4))))))]⟩)]⟩ .no) .no)))) .no)) .no)) .no)) .no)) .no)))))))) .no)) .no)) .no)) .no)) .no)))))) Tryz.func64 (fun _ _=>by kernel_rfl) rfl (fun v vals x z ha hz=>(rForm_i x.1 x.2).trans hz)
end Go.Eng
set_option maxRecDepth 100000
set_option maxHeartbeats 4000000
namespace Go.Eng
open Go.Proofs Go.RowKit
noncomputable def ZQf:FuncId×Con:=(65,⟨[.slice (.slice (.pair (.pair (.leaf 4) (.pair (.leaf 4) (.pair (.leaf 4) (.leaf 4)))) (.pair (.leaf 4) (.pair (.leaf 4) (.pair (.leaf 4) (.leaf 4))))))],[.int .i64],fun p=>Zrg p⟩)
theorem Zlx (m:List (List ((Rat×Rat×Rat×Rat)×Rat×Rat×Rat×Rat))):Zk ⟨Tryz.prog,[(39,0),(41,2),(43,3),(91,1),(93,4)],[],[],[],[],[],[]⟩ [] Tryz.f65 .no [.slice (.slice (.pair (.pair (.leaf 4) (.pair (.leaf 4) (.pair (.leaf 4) (.leaf 4)))) (.pair (.leaf 4) (.pair (.leaf 4) (.pair (.leaf 4) (.leaf 4))))))] [.int .i64] (m)=Zrg m:=by kernel_rfl
theorem ZHn:Zj Tryz.prog ZQf.1 ZQf.2:=Zn (C:=⟨Tryz.prog,[(39,0),(41,2),(43,3),(91,1),(93,4)],[],[],[],[],[],[]⟩) trivial trivial trivial trivial (inl:=[]) trivial (ann:=.no) Tryz.func65 (fun _ _=>by kernel_rfl) rfl (fun v vals x z ha hz=>(Zlx x).trans hz)
end Go.Eng
set_option maxRecDepth 100000
set_option maxHeartbeats 4000000
namespace Go.Eng
open Go.Proofs Go.RowKit
noncomputable def ZYl:FuncId×Con:=(32,⟨[.slice (.slice (.pair (.pair (.leaf 4) (.pair (.leaf 4) (.pair (.leaf 4) (.leaf 4)))) (.pair (.leaf 4) (.pair (.leaf 4) (.pair (.leaf 4) (.leaf 4))))))],[.slice (.slice (.pair (.pair (.leaf 4) (.pair (.leaf 4) (.pair (.leaf 4) (.leaf 4)))) (.pair (.leaf 4) (.pair (.leaf 4) (.pair (.leaf 4) (.leaf 4)))))),.slice (.int .i64),.int .i64],fun p=>Zzg p⟩)
theorem ZXu (m:List (List ((Rat×Rat×Rat×Rat)×Rat×Rat×Rat×Rat))):Zk ⟨Tryz.prog,[(39,0),(41,2),(43,3),(91,1),(93,4)],[Zxf,Zbf,ZQf],[],[],[],[],[]⟩ [] Tryz.f32 .no [.slice (.slice (.pair (.pair (.leaf 4) (.pair (.leaf 4) (.pair (.leaf 4) (.leaf 4)))) (.pair (.leaf 4) (.pair (.leaf 4) (.pair (.leaf 4) (.leaf 4))))))] [.slice (.slice (.pair (.pair (.leaf 4) (.pair (.leaf 4) (.pair (.leaf 4) (.leaf 4)))) (.pair (.leaf 4) (.pair (.leaf 4) (.pair (.leaf 4) (.leaf 4)))))),.slice (.int .i64),.int .i64] (m)=Zzg m:=by kernel_rfl
theorem Zvt:Zj Tryz.prog ZYl.1 ZYl.2:=Zn (C:=⟨Tryz.prog,[(39,0),(41,2),(43,3),(91,1),(93,4)],[Zxf,Zbf,ZQf],[],[],[],[],[]⟩) ⟨ZYm,ZZm,ZHn,trivial⟩ trivial trivial trivial (inl:=[]) trivial (ann:=.no) Tryz.func32 (fun _ _=>by kernel_rfl) rfl (fun v vals x z ha hz=>(ZXu x).trans hz)
end Go.Eng
set_option maxRecDepth 100000
set_option maxHeartbeats 4000000
namespace Go.Eng
open Go.Proofs Go.RowKit
noncomputable def ZQh:FuncId×Con:=(77,⟨[],[.pair (.pair (.leaf 4) (.pair (.leaf 4) (.pair (.leaf 4) (.leaf 4)))) (.pair (.leaf 4) (.pair (.leaf 4) (.pair (.leaf 4) (.leaf 4))))],fun _=>Zdi⟩)
theorem ZRx  : Zk ⟨Tryz.prog,[(39,0),(41,2),(43,3),(91,1),(93,4)],[Z1c,ZWa],[],[],[],[],[]⟩ [] Tryz.f77 .no [] [.pair (.pair (.leaf 4) (.pair (.leaf 4) (.pair (.leaf 4) (.leaf 4)))) (.pair (.leaf 4) (.pair (.leaf 4) (.pair (.leaf 4) (.leaf 4))))] ()=Zdi  := by kernel_rfl
theorem Zms:Zj Tryz.prog ZQh.1 ZQh.2:=Zn (C:=⟨Tryz.prog,[(39,0),(41,2),(43,3),(91,1),(93,4)],[Z1c,ZWa],[],[],[],[],[]⟩) ⟨Zoj,Z8d,trivial⟩ trivial trivial trivial (inl:=[]) trivial (ann:=.no) Tryz.func77 (fun _ _=>by kernel_rfl) rfl (fun v vals x z ha hz=>(ZRx ).trans hz)
end Go.Eng
set_option maxRecDepth 100000
set_option maxHeartbeats 4000000
namespace Go.Eng
open Go.Proofs Go.RowKit
noncomputable def Zvl:FuncId×ConM:=(73,⟨[.int .i64,.int .i64],31,97,.pair (.pair (.leaf 4) (.pair (.leaf 4) (.pair (.leaf 4) (.leaf 4)))) (.pair (.leaf 4) (.pair (.leaf 4) (.pair (.leaf 4) (.leaf 4)))),fun p=>Zki p.1 p.2⟩)
theorem Zvx (rows:Int) (columns:Int):ZXi ⟨Tryz.prog,[(39,0),(41,2),(43,3),(91,1),(93,4)],[ZQh],[9],[],[],[],[]⟩ [] Tryz.f73 (.two .no (.two .no (.two (.two .no (.two (.cut ⟨⟨[0,1,5],[],[.s 6 (.dat (.int .i64)),.l (.sl 5) (.mat 31 97 (.pair (.pair (.leaf 4) (.pair (.leaf 4) (.pair (.leaf 4) (.leaf 4)))) (.pair (.leaf 4) (.pair (.leaf 4) (.pair (.leaf 4) (.leaf 4))))))]⟩,[(.exit 0,⟨[5],[],[.l (.sl 5) (.mat 31 97 (.pair (.pair (.leaf 4) (.pair (.leaf 4) (.pair (.leaf 4) (.leaf 4)))) (.pair (.leaf 4) (.pair (.leaf 4) (.pair (.leaf 4) (.leaf 4))))))]⟩)]⟩ (.two (.two .no (.two (.two (.two .no (.two (.cut ⟨⟨[0,1,5,6],[],[.s 7 (.dat (.int .i64)),.l (.sl 5) (.mat 31 97 (.pair (.pair (.leaf 4) (.pair (.leaf 4) (.pair (.leaf 4) (.leaf 4)))) (.pair (.leaf 4) (.pair (.leaf 4) (.pair (.leaf 4) (.leaf 4))))))]⟩,[(.exit 2,⟨[0,1,5,6],[],[.l (.sl 5) (.mat 31 97 (.pair (.pair (.leaf 4) (.pair (.leaf 4) (.pair (.leaf 4) (.leaf 4)))) (.pair (.leaf 4) (.pair (.leaf 4) (.pair (.leaf 4) (.leaf 4))))))]⟩)]⟩ .no) .no)) .no) .no)) .no)) .no)) .no))) [.int .i64,.int .i64] 31 97 (.pair (.pair (.leaf 4) (.pair (.leaf 4) (.pair (.leaf 4) (.leaf 4)))) (.pair (.leaf 4) (.pair (.leaf 4) (.pair (.leaf 4) (.leaf 4))))) (rows,columns)=Zki rows columns:=by kernel_rfl
theorem ZMx:Z4h Tryz.prog Zvl.1 Zvl.2:=ZVr (C:=⟨Tryz.prog,[(39,0),(41,2),(43,3),(91,1),(93,4)],[ZQh],[9],[],[],[],[]⟩) ⟨Zms,trivial⟩ trivial trivial trivial (inl:=[]) trivial (ann:=(.two .no (.two .no (.two (.two .no (.two (.cut ⟨⟨[0,1,5],[],[.s 6 (.dat (.int .i64)),.l (.sl 5) (.mat 31 97 (.pair (.pair (.leaf 4) (.pair (.leaf 4) (.pair (.leaf 4) (.leaf 4)))) (.pair (.leaf 4) (.pair (.leaf 4) (.pair (.leaf 4) (.leaf 4))))))]⟩,[(.exit 0,⟨[5],[],[.l (.sl 5) (.mat 31 97 (.pair (.pair (.leaf 4) (.pair (.leaf 4) (.pair (.leaf 4) (.leaf 4)))) (.pair (.leaf 4) (.pair (.leaf 4) (.pair (.leaf 4) (.leaf 4))))))]⟩)]⟩ (.two (.two .no (.two (.two (.two .no (.two (.cut ⟨⟨[0,1,5,6],[],[.s 7 (.dat (.int .i64)),.l (.sl 5) (.mat 31 97 (.pair (.pair (.leaf 4) (.pair (.leaf 4) (.pair (.leaf 4) (.leaf 4)))) (.pair (.leaf 4) (.pair (.leaf 4) (.pair (.leaf 4) (.leaf 4))))))]⟩,[(.exit 2,⟨[0,1,5,6],[],[.l (.sl 5) (.mat 31 97 (.pair (.pair (.leaf 4) (.pair (.leaf 4) (.pair (.leaf 4) (.leaf 4)))) (.pair (.leaf 4) (.pair (.leaf 4) (.pair (.leaf 4) (.leaf 4))))))]⟩)]⟩ .no) .no)) .no) .no)) .no)) .no)) .no)))) Tryz.func73 (fun _ _=>by kernel_rfl) rfl (fun x z hz=>(Zvx x.1 x.2).trans hz)
end Go.Eng
set_option maxRecDepth 100000
set_option maxHeartbeats 4000000
namespace Go.Eng
open Go.Proofs Go.RowKit
noncomputable def ZAk:FuncId×Con:=(74,⟨[],[.pair (.pair (.leaf 4) (.pair (.leaf 4) (.pair (.leaf 4) (.leaf 4)))) (.pair (.leaf 4) (.pair (.leaf 4) (.pair (.leaf 4) (.leaf 4))))],fun _=>ZEi⟩)
theorem rOne2_i  : Zk ⟨Tryz.prog,[(39,0),(41,2),(43,3),(91,1),(93,4)],[Z1c,ZWa],[],[],[],[],[]⟩ [] Tryz.f74 .no [] [.pair (.pair (.leaf 4) (.pair (.leaf 4) (.pair (.leaf 4) (.leaf 4)))) (.pair (.leaf 4) (.pair (.leaf 4) (.pair (.leaf 4) (.leaf 4))))] ()=ZEi  := by kernel_rfl
theorem rOne2_k:Zj Tryz.prog ZAk.1 ZAk.2:=Zn (C:=⟨Tryz.prog,[(39,0),(41,2),(43,3),(91,1),(93,4)],[Z1c,ZWa],[],[],[],[],[]⟩) ⟨Zoj,Z8d,trivial⟩ trivial trivial trivial (inl:=[]) trivial (ann:=.no) Tryz.func74 (fun _ _=>by kernel_rfl) rfl (fun v vals x z ha hz=>(rOne2_i ).trans hz)
end Go.Eng
set_option maxRecDepth 100000
set_option maxHeartbeats 4000000
namespace Go.Eng
open Go.Proofs Go.RowKit
noncomputable def Z3l:FuncId×Con:=(75,⟨[.pair (.pair (.leaf 4) (.pair (.leaf 4) (.pair (.leaf 4) (.leaf 4)))) (.pair (.leaf 4) (.pair (.leaf 4) (.pair (.leaf 4) (.leaf 4))))],[.pair (.pair (.leaf 4) (.pair (.leaf 4) (.pair (.leaf 4) (.leaf 4)))) (.pair (.leaf 4) (.pair (.leaf 4) (.pair (.leaf 4) (.leaf 4))))],fun p=>ZAj p⟩)
theorem wNeg_i (x:(Rat×Rat×Rat×Rat)×Rat×Rat×Rat×Rat):Zk ⟨Tryz.prog,[(39,0),(41,2),(43,3),(91,1),(93,4)],[ZZe],[],[],[],[],[]⟩ [] Tryz.f75 .no [.pair (.pair (.leaf 4) (.pair (.leaf 4) (.pair (.leaf 4) (.leaf 4)))) (.pair (.leaf 4) (.pair (.leaf 4) (.pair (.leaf 4) (.leaf 4))))] [.pair (.pair (.leaf 4) (.pair (.leaf 4) (.pair (.leaf 4) (.leaf 4)))) (.pair (.leaf 4) (.pair (.leaf 4) (.pair (.leaf 4) (.leaf 4))))] (x)=ZAj x:=by kernel_rfl
theorem wNeg_k:Zj Tryz.prog Z3l.1 Z3l.2:=Zn (C:=⟨Tryz.prog,[(39,0),(41,2),(43,3),(91,1),(93,4)],[ZZe],[],[],[],[],[]⟩) ⟨Zro,trivial⟩ trivial trivial trivial (inl:=[]) trivial (ann:=.no) Tryz.func75 (fun _ _=>by kernel_rfl) rfl (fun v vals x z ha hz=>(wNeg_i x).trans hz)
end Go.Eng
set_option maxRecDepth 100000
set_option maxHeartbeats 4000000
namespace Go.Eng
open Go.Proofs Go.RowKit
noncomputable def ZOk:FuncId×Con:=(34,⟨[.slice (.slice (.pair (.pair (.leaf 4) (.pair (.leaf 4) (.pair (.leaf 4) (.leaf 4)))) (.pair (.leaf 4) (.pair (.leaf 4) (.pair (.leaf 4) (.leaf 4))))))],[.slice (.slice (.pair (.pair (.leaf 4) (.pair (.leaf 4) (.pair (.leaf 4) (.leaf 4)))) (.pair (.leaf 4) (.pair (.leaf 4) (.pair (.leaf 4) (.leaf 4)))))),.int .i64],fun p=>Z3f p⟩)
theorem Z8w (m:List (List ((Rat×Rat×Rat×Rat)×Rat×Rat×Rat×Rat))):Zk ⟨Tryz.prog,[(39,0),(41,2),(43,3),(91,1),(93,4)],[Zxf,Zbf,ZQf,ZAk,Z3l],[75,76,100048],[],[],[],[Zvl]⟩ [] Tryz.f34 (.two .no (.two .no (.two .no (.two .no (.two .no (.two (.two .no (.two (.cut ⟨⟨[4,5,6],[],[.s 7 (.mat 31 97 (.pair (.pair (.leaf 4) (.pair (.leaf 4) (.pair (.leaf 4) (.leaf 4)))) (.pair (.leaf 4) (.pair (.leaf 4) (.pair (.leaf 4) (.leaf 4)))))),.s 8 (.dat (.int .i64))]⟩,[(.exit 0,⟨[],[],[.s 7 (.mat 31 97 (.pair (.pair (.leaf 4) (.pair (.leaf 4) (.pair (.leaf 4) (.leaf 4)))) (.pair (.leaf 4) (.pair (.leaf 4) (.pair (.leaf 4) (.leaf 4))))))]⟩)]⟩ (.two (.two .no (.two (.cut ⟨⟨[],[],[]⟩,[(.norm,⟨[4,5,6,8],[],[.s 7 (.mat 31 97 (.pair (.pair (.leaf 4) (.pair (.leaf 4) (.pair (.leaf 4) (.leaf 4)))) (.pair (.leaf 4) (.pair (.leaf 4) (.pair (.leaf 4) (.leaf 4))))))]⟩)]⟩ (.two (.two .no (.two (.two .no (.two (.cut ⟨⟨[4,5,6,7,8],[],[.s 9 (.dat .bool),.s 10 (.dat (.int .i64))]⟩,[(.exit 2,⟨[4,5,6,7,8],[],[.s 9 (.dat .bool)]⟩)]⟩ (.two (.two .no (.two (.two (.cut ⟨⟨[],[],[]⟩,[(.norm,⟨[4,5,6,7,8,10],[],[.s 9 (.dat .bool)]⟩)]⟩ .no) .no) .no)) .no)) .no)) (.two .no (.two .no (.two .no (.two (.two .no (.two (.cut ⟨⟨[4,5,6,7,8,11],[],[.s 12 (.dat (.int .i64)),.l (.sl 11) (.own 97 (.pair (.pair (.leaf 4) (.pair (.leaf 4) (.pair (.leaf 4) (.leaf 4)))) (.pair (.leaf 4) (.pair (.leaf 4) (.pair (.leaf 4) (.leaf 4))))))]⟩,[(.exit 4,⟨[4,5,6,7,8,11],[],[.l (.sl 11) (.own 97 (.pair (.pair (.leaf 4) (.pair (.leaf 4) (.pair (.leaf 4) (.leaf 4)))) (.pair (.leaf 4) (.pair (.leaf 4) (.pair (.leaf 4) (.leaf 4))))))]⟩)]⟩ .no) .no)) .no)))))) .no)) .no)) .no)) .no)) .no)))))) [.slice (.slice (.pair (.pair (.leaf 4) (.pair (.leaf 4) (.pair (.leaf 4) (.leaf 4)))) (.pair (.leaf 4) (.pair (.leaf 4) (.pair (.leaf 4) (.leaf 4))))))] [.slice (.slice (.pair (.pair (.leaf 4) (.pair (.leaf 4) (.pair (.leaf 4) (.leaf 4)))) (.pair (.leaf 4) (.pair (.leaf 4) (.pair (.leaf 4) (.leaf 4)))))),.int .i64] (m)=Z3f m:=by kernel_rfl
theorem ZAy:Zj Tryz.prog ZOk.1 ZOk.2:=Zn (C:=⟨Tryz.prog,[(39,0),(41,2),(43,3),(91,1),(93,4)],[Zxf,Zbf,ZQf,ZAk,Z3l],[75,76,100048],[],[],[],[Zvl]⟩) ⟨ZYm,ZZm,ZHn,rOne2_k,wNeg_k,trivial⟩ trivial trivial trivial (inl:=[]) trivial (ann:=(.two .no (.two .no (.two .no (.two .no (.two .no (.two (.two .no (.two (.cut ⟨⟨[4,5,6],[],[.s 7 (.mat 31 97 (.pair (.pair (.leaf 4) (.pair (.leaf 4) (.pair (.leaf 4) (.leaf 4)))) (.pair (.leaf 4) (.pair (.leaf 4) (.pair (.leaf 4) (.leaf 4)))))),.s 8 (.dat (.int .i64))]⟩,[(.exit 0,⟨[],[],[.s 7 (.mat 31 97 (.pair (.pair (.leaf 4) (.pair (.leaf 4) (.pair (.leaf 4) (.leaf 4)))) (.pair (.leaf 4) (.pair (.leaf 4) (.pair (.leaf 4) (.leaf 4))))))]⟩)]⟩ (.two (.two .no (.two (.cut ⟨⟨[],[],[]⟩,[(.norm,⟨[4,5,6,8],[],[.s 7 (.mat 31 97 (.pair (.pair (.leaf 4) (.pair (.leaf 4) (.pair (.leaf 4) (.leaf 4)))) (.pair (.leaf 4) (.pair (.leaf 4) (.pair (.leaf 4) (.leaf 4))))))]⟩)]⟩ (.two (.two .no (.two (.two .no (.two (.cut ⟨⟨[4,5,6,7,8],[],[.s 9 (.dat .bool),.s 10 (.dat (.int .i64))]⟩,[(.exit 2,⟨[4,5,6,7,8],[],[.s 9 (.dat .bool)]⟩)]⟩ (.two (.two .no (.two (.two (.cut ⟨⟨[],[],[]⟩,[(.norm,⟨[4,5,6,7,8,10],[],[.s 9 (.dat .bool)]⟩)]⟩ .no) .no) .no)) .no)) .no)) (.two .no (.two .no (.two .no (.two (.two .no (.two (.cut ⟨⟨[4,5,6,7,8,11],[],[.s 12 (.dat (.int .i64)),.l (.sl 11) (.own 97 (.pair (.pair (.leaf 4) (.pair (.leaf 4) (.pair (.leaf 4) (.leaf 4)))) (.pair (.leaf 4) (.pair (.leaf 4) (.pair (.leaf 4) (.leaf 4))))))]⟩,[(.exit 4,⟨[4,5,6,7,8,11],[],[.l (.sl 11) (.own 97 (.pair (.pair (.leaf 4) (.pair (.leaf 4) (.pair (.leaf 4) (.leaf 4)))) (.pair (.leaf 4) (.pair (.leaf 4) (.pair (.leaf 4) (.leaf 4))))))]⟩)]⟩ .no) .no)) .no)))))) .no)) .no)) .no)) .no)) .no))))))) Tryz.func34 (fun _ _=>by kernel_rfl) rfl (fun v vals x z ha hz=>(Z8w x).trans hz) (hq:=⟨ZMx,trivial⟩)
end Go.Eng
set_option maxRecDepth 100000
set_option maxHeartbeats 4000000
namespace Go.Eng
open Go.Proofs Go.RowKit
noncomputable def ZZj:FuncId×Con:=(35,⟨[.slice (.slice (.pair (.pair (.leaf 4) (.pair (.leaf 4) (.pair (.leaf 4) (.leaf 4)))) (.pair (.leaf 4) (.pair (.leaf 4) (.pair (.leaf 4) (.leaf 4)))))),.slice (.pair (.pair (.leaf 4) (.pair (.leaf 4) (.pair (.leaf 4) (.leaf 4)))) (.pair (.leaf 4) (.pair (.leaf 4) (.pair (.leaf 4) (.leaf 4)))))],[.slice (.pair (.pair (.leaf 4) (.pair (.leaf 4) (.pair (.leaf 4) (.leaf 4)))) (.pair (.leaf 4) (.pair (.leaf 4) (.pair (.leaf 4) (.leaf 4))))),.int .i64],fun p=>ZAc p.1 p.2⟩)
theorem rAny_i (m:List (List ((Rat×Rat×Rat×Rat)×Rat×Rat×Rat×Rat))) (b:List ((Rat×Rat×Rat×Rat)×Rat×Rat×Rat×Rat)):Zk ⟨Tryz.prog,[(39,0),(41,2),(43,3),(91,1),(93,4)],[Zxf,Zbf,ZQf,ZQd,ZQh],[46,47],[],[],[],[]⟩ [] Tryz.f35 (.two .no (.two (.two (.cut ⟨⟨[],[],[]⟩,[(.norm,⟨[0,1],[],[.s 24 (.dat .bool)]⟩)]⟩ .no) .no) (.two .no (.two .no (.two (.two .no (.two (.cut ⟨⟨[0,1,6],[],[.s 7 (.mat 31 97 (.pair (.pair (.leaf 4) (.pair (.leaf 4) (.pair (.leaf 4) (.leaf 4)))) (.pair (.leaf 4) (.pair (.leaf 4) (.pair (.leaf 4) (.leaf 4)))))),.s 8 (.dat (.int .i64))]⟩,[(.exit 0,⟨[6],[],[.s 7 (.mat 31 97 (.pair (.pair (.leaf 4) (.pair (.leaf 4) (.pair (.leaf 4) (.leaf 4)))) (.pair (.leaf 4) (.pair (.leaf 4) (.pair (.leaf 4) (.leaf 4))))))]⟩)]⟩ .no) .no)) (.two .no (.two (.two .no (.two (.cut ⟨⟨[6,9,10],[],[.s 11 (.dat (.int .i64))]⟩,[(.exit 2,⟨[6,9,10],[],[]⟩),(.ret,⟨[],[],[.s 1000 (.dat (.slice (.pair (.pair (.leaf 4) (.pair (.leaf 4) (.pair (.leaf 4) (.leaf 4)))) (.pair (.leaf 4) (.pair (.leaf 4) (.pair (.leaf 4) (.leaf 4))))))),.s 1001 (.dat (.int .i64))]⟩)]⟩ .no) .no)) (.two .no (.two (.two .no (.two (.cut ⟨⟨[6,9,10],[],[.s 12 (.own 97 (.pair (.pair (.leaf 4) (.pair (.leaf 4) (.pair (.leaf 4) (.leaf 4)))) (.pair (.leaf 4) (.pair (.leaf 4) (.pair (.leaf 4) (.leaf 4)))))),.s 13 (.dat (.int .i64))]⟩,[(.exit 4,⟨[6,9,10],[],[.s 12 (.own 97 (.pair (.pair (.leaf 4) (.pair (.leaf 4) (.pair (.leaf 4) (.leaf 4)))) (.pair (.leaf 4) (.pair (.leaf 4) (.pair (.leaf 4) (.leaf 4))))))]⟩)]⟩ .no) .no)) (.two (.two .no (.two (.cut ⟨⟨[6,9,10,12],[],[.s 14 (.dat (.int .i64)),.l (.sl 12) (.own 97 (.pair (.pair (.leaf 4) (.pair (.leaf 4) (.pair (.leaf 4) (.leaf 4)))) (.pair (.leaf 4) (.pair (.leaf 4) (.pair (.leaf 4) (.leaf 4))))))]⟩,[(.exit 6,⟨[12],[],[.l (.sl 12) (.own 97 (.pair (.pair (.leaf 4) (.pair (.leaf 4) (.pair (.leaf 4) (.leaf 4)))) (.pair (.leaf 4) (.pair (.leaf 4) (.pair (.leaf 4) (.leaf 4))))))]⟩)]⟩ .no) .no)) .no)))))))))) [.slice (.slice (.pair (.pair (.leaf 4) (.pair (.leaf 4) (.pair (.leaf 4) (.leaf 4)))) (.pair (.leaf 4) (.pair (.leaf 4) (.pair (.leaf 4) (.leaf 4)))))),.slice (.pair (.pair (.leaf 4) (.pair (.leaf 4) (.pair (.leaf 4) (.leaf 4)))) (.pair (.leaf 4) (.pair (.leaf 4) (.pair (.leaf 4) (.leaf 4)))))] [.slice (.pair (.pair (.leaf 4) (.pair (.leaf 4) (.pair (.leaf 4) (.leaf 4)))) (.pair (.leaf 4) (.pair (.leaf 4) (.pair (.leaf 4) (.leaf 4))))),.int .i64] (m,b)=ZAc m b:=by kernel_rfl
theorem rAny_k:Zj Tryz.prog ZZj.1 ZZj.2:=Zn (C:=⟨Tryz.prog,[(39,0),(41,2),(43,3),(91,1),(93,4)],[Zxf,Zbf,ZQf,ZQd,ZQh],[46,47],[],[],[],[]⟩) ⟨ZYm,ZZm,ZHn,ZCm,Zms,trivial⟩ trivial trivial trivial (inl:=[]) trivial (ann:=(.two .no (.two (.two (.cut ⟨⟨[],[],[]⟩,[(.norm,⟨[0,1],[],[.s 24 (.dat .bool)]⟩)]⟩ .no) .no) (.two .no (.two .no (.two (.two .no (.two (.cut ⟨⟨[0,1,6],[],[.s 7 (.mat 31 97 (.pair (.pair (.leaf 4) (.pair (.leaf 4) (.pair (.leaf 4) (.leaf 4)))) (.pair (.leaf 4) (.pair (.leaf 4) (.pair (.leaf 4) (.leaf 4)))))),.s 8 (.dat (.int .i64))]⟩,[(.exit 0,⟨[6],[],[.s 7 (.mat 31 97 (.pair (.pair (.leaf 4) (.pair (.leaf 4) (.pair (.leaf 4) (.leaf 4)))) (.pair (.leaf 4) (.pair (.leaf 4) (.pair (.leaf 4) (.leaf 4))))))]⟩)]⟩ .no) .no)) (.two .no (.two (.two .no (.two (.cut ⟨⟨[6,9,10],[],[.s 11 (.dat (.int .i64))]⟩,[(.exit 2,⟨[6,9,10],[],[]⟩),(.ret,⟨[],[],[.s 1000 (.dat (.slice (.pair (.pair (.leaf 4) (.pair (.leaf 4) (.pair (.leaf 4) (.leaf 4)))) (.pair (.leaf 4) (.pair (.leaf 4) (.pair (.leaf 4) (.leaf 4))))))),.s 1001 (.dat (.int .i64))]⟩)]⟩ .no) .no)) (.two .no (.two (.two .no (.two (.cut ⟨⟨[6,9,10],[],[.s 12 (.own 97 (.pair (.pair (.leaf 4) (.pair (.leaf 4) (.pair (.leaf 4) (.leaf 4)))) (.pair (.leaf 4) (.pair (.leaf 4) (.pair (.leaf 4) (.leaf 4)))))),.s 13 (.dat (.int .i64))]⟩,[(.exit 4,⟨[6,9,10],[],[.s 12 (.own 97 (.pair (.pair (.leaf 4) (.pair (.leaf 4) (.pair (.leaf 4) (.leaf 4)))) (.pair (.leaf 4) (.pair (.leaf 4) (.pair (.leaf 4) (.leaf 4))))))]⟩)]⟩ .no) .no)) (.two (.two .no (.two (.cut ⟨⟨[6,9,10,12],[],[.s 14 (.dat (.int .i64)),.l (.sl 12) (.own 97 (.pair (.pair (.leaf 4) (.pair (.leaf 4) (.pair (.leaf 4) (.leaf 4)))) (.pair (.leaf 4) (.pair (.leaf 4) (.pair (.leaf 4) (.leaf 4))))))]⟩,[(.exit 6,⟨[12],[],[.l (.sl 12) (.own 97 (.pair (.pair (.leaf 4) (.pair (.leaf 4) (.pair (.leaf 4) (.leaf 4)))) (.pair (.leaf 4) (.pair (.leaf 4) (.pair (.leaf 4) (.leaf 4))))))]⟩)]⟩ .no) .no)) .no))))))))))) Tryz.func35 (fun _ _=>by kernel_rfl) rfl (fun v vals x z ha hz=>(rAny_i x.1 x.2).trans hz)
end Go.Eng
set_option maxRecDepth 100000
set_option maxHeartbeats 4000000
namespace Go.Eng
open Go.Proofs Go.RowKit
theorem Zxv (m:List (List (Int×Int))) (b:List (Int×Int)):Zk ⟨Tryz.prog,[(39,0),(41,2),(43,3),(91,1),(93,4)],[Zim,ZFf,Zdf,Z5e,Z5j,ZPg,Znm,Zum,Znh,ZYl,ZNh,ZOk,ZZj],[],[],[],[],[]⟩ [] Tryz.f6 (.two .no (.two (.two (.cut ⟨⟨[],[],[]⟩,[(.norm,⟨[0,1],[],[.s 30 (.dat .bool)]⟩)]⟩ .no) .no) (.two .no (.two .no (.two .no (.two .no (.two .no (.two (.two (.cut ⟨⟨[],[],[]⟩,[(.norm,⟨[5,6,7,8,10,13],[],[.s 85 (.dat .bool)]⟩)]⟩ .no) .no) (.two (.two .no (.two (.cut ⟨⟨[5,6,7,8,10,13,87],[],[.s 88 (.dat (.int .i64))]⟩,[(.exit 0,⟨[5,6,7,8],[],[]⟩),(.ret,⟨[],[],[.s 1000 (.dat .bool)]⟩)]⟩ .no) .no)) (.two .no (.two .no (.two .no (.two .no (.two (.cut ⟨⟨[],[],[]⟩,[(.norm,⟨[],[],[.s 4 (.dat .bool)]⟩)]⟩ .no) .no)))))))))))))) [.slice (.slice (.pair (.int .i64) (.int .i64))),.slice (.pair (.int .i64) (.int .i64))] [.bool] (m,b)=ZPm m b:=by kernel_rfl
theorem ZFy {w0:World} {v0:Zb} (hv:VIn v0 w0) {c0:List Value} {m:(List (List (Int×Int)))} (p0:Rep.rel (Zw (Zw (Zhb (Zd .i64) (Zd .i64)))) v0 c0 m) {c1:List Value} {b:(List (Int×Int))} (p1:Rep.rel (Zw (Zhb (Zd .i64) (Zd .i64))) v0 c1 b) {z:Bool} (hm:ZPm m b=some z):Ret Tryz.prog 6 #[(Zw (Zw (Zhb (Zd .i64) (Zd .i64)))).val c0,(Zw (Zhb (Zd .i64) (Zd .i64))).val c1] w0 v0 (fun y v'=>∃ r0,y=Zmd.val r0∧Zmd.rel v' r0 z):=(Zkp (C:=⟨Tryz.prog,[(39,0),(41,2),(43,3),(91,1),(93,4)],[Zim,ZFf,Zdf,Z5e,Z5j,ZPg,Znm,Zum,Znh,ZYl,ZNh,ZOk,ZZj],[],[],[],[],[]⟩) (CfOK.of ⟨ZOv,Zao,Zvo,Z3o,Rank_k,Zzr,Any_k,few2_k,is2_k,Zvt,ZOs,ZAy,rAny_k,trivial⟩ trivial trivial trivial) (inl:=[]) (ZIc.of trivial) (ann:=(.two .no (.two (.two (.cut ⟨⟨[],[],[]⟩,[(.norm,⟨[0,1],[],[.s 30 (.dat .bool)]⟩)]⟩ .no) .no) (.two .no (.two .no (.two .no (.two .no (.two .no (.two (.two (.cut ⟨⟨[],[],[]⟩,[(.norm,⟨[5,6,7,8,10,13],[],[.s 85 (.dat .bool)]⟩)]⟩ .no) .no) (.two (.two .no (.two (.cut ⟨⟨[5,6,7,8,10,13,87],[],[.s 88 (.dat (.int .i64))]⟩,[(.exit 0,⟨[5,6,7,8],[],[]⟩),(.ret,⟨[],[],[.s 1000 (.dat .bool)]⟩)]⟩ .no) .no)) (.two .no (.two .no (.two .no (.two .no (.two (.cut ⟨⟨[],[],[]⟩,[(.norm,⟨[],[],[.s 4 (.dat .bool)]⟩)]⟩ .no) .no))))))))))))))) (ats:=[.slice (.slice (.pair (.int .i64) (.int .i64))),.slice (.pair (.int .i64) (.int .i64))]) (rts:=[.bool]) (x:=(m,b)) (vals:=[(Zw (Zw (Zhb (Zd .i64) (Zd .i64)))).val c0,(Zw (Zhb (Zd .i64) (Zd .i64))).val c1]) Tryz.func6 rfl ((Zxv m b).trans hm) hv ⟨c0,_,rfl,p0,c1,rfl,p1⟩).mono fun y v' _ h=>h
end Go.Eng
