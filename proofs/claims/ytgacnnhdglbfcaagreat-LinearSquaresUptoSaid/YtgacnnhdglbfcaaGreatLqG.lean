/- Lemmas towards the statement: the engine of the walks, the functions' models, laws and walks, part 7. Conditions: as each states. -/
import Derived.Test.YtgacnnhdglbfcaaGreatProg
import Derived.Test.YtgacnnhdglbfcaaGreatLqF
set_option linter.all false
noncomputable section
set_option maxRecDepth 100000
namespace Go.Eng
theorem Zwx {x:Rat} {z:List UInt8} (h:ZIi x=some z):Zxo x=some z:=by
 unfold ZIi at h;split at h
 ·rename_i hh;obtain ⟨h1,h2⟩:=hh
  cases h
  unfold Zxo Znh;have l1:=ZDk (n:=x.num.natAbs) (by omega);have l2:=ZDk (n:=x.den) (by omega);rw [if_pos (ZQd h1),Za];have e0:ifb (decide (x.num<0)) (bnd (ZDc x) fun y136=>some (!(y136))) (some false)=some (decide (x.num<0)):=by
   unfold ZDc;by_cases h:x.num<0
   ·have:x≠0:=fun e=>by subst e;simp at h
    rw [decide_eq_true h,Zf,Za,decide_eq_false this];rfl
   ·rw [decide_eq_false h,Ze]
  rw [e0,Za];have e1:ifb (decide (x.num<0)) (bnd (Zxb ([45]++ZYa x.num.natAbs)) fun y80=>some (([45]:List UInt8)++ZYa x.num.natAbs)) (some (ZYa x.num.natAbs))=some ((if x.num<0 then [45] else [])++ZYa x.num.natAbs):=by
   by_cases h:x.num<0
   ·rw [decide_eq_true h,Zf,ZVe (by simp;omega),Za,if_pos h]
   ·rw [decide_eq_false h,Ze,if_neg h];rfl
  rw [e1,Za];unfold txtQ ZXb ZAd;have l3:((if x.num<0 then [45] else [])++ZYa x.num.natAbs:List UInt8).length≤4398046511105:=by
   rw [List.length_append];split <;> simp <;> omega
  generalize ((if x.num<0 then [45] else [])++ZYa x.num.natAbs:List UInt8)=s at *;rw [Za,Z0n,Za,Za,Zrs];by_cases hd:x.den=1
  ·rw [hd];simp [ifb,bnd]
  ·have:=x.den_nz;rw [decide_eq_true (by omega),Zf,ZVe (by simp;omega),Za,if_pos (ZQd h2),Za,ZVe (by simp;omega),Za,Za,if_neg hd];simp
 ·cases h
end Go.Eng
set_option maxRecDepth 100000
set_option maxHeartbeats 4000000
namespace Go.Eng
open Go.Proofs Go.RowKit
def Z8k:FuncId×Con:=(100,⟨[.leaf 4],[.str],fun p=>ZIi p⟩)
theorem rtext_i (x:Rat):Zk ⟨Tryz.prog,[(47,1),(49,4)],[Zjg,Zlm,ZNf,Z7c],[],[],[],[],[]⟩ [] Tryz.f100 (.two .no (.two .no (.two (.two (.cut ⟨⟨[],[],[]⟩,[(.norm,⟨[1,3],[],[.s 13 (.dat .bool)]⟩)]⟩ .no) (.cut ⟨⟨[],[],[]⟩,[(.norm,⟨[1],[],[.s 3 (.dat .str)]⟩)]⟩ .no)) (.two (.two .no (.cut ⟨⟨[],[],[]⟩,[(.norm,⟨[],[],[.s 3 (.dat .str)]⟩)]⟩ .no)) .no)))) [.leaf 4] [.str] (x)=Zxo x:=by kernel_rfl
theorem rtext_k:Zj Tryz.prog Z8k.1 Z8k.2:=Zm (C:=⟨Tryz.prog,[(47,1),(49,4)],[Zjg,Zlm,ZNf,Z7c],[],[],[],[],[]⟩) ⟨ZDo,Ztv,ZDp,ZGj,trivial⟩ trivial trivial trivial (inl:=[]) trivial (ann:=.two .no (.two .no (.two (.two (.cut ⟨⟨[],[],[]⟩,[(.norm,⟨[1,3],[],[.s 13 (.dat .bool)]⟩)]⟩ .no) (.cut ⟨⟨[],[],[]⟩,[(.norm,⟨[1],[],[.s 3 (.dat .str)]⟩)]⟩ .no)) (.two (.two .no (.cut ⟨⟨[],[],[]⟩,[(.norm,⟨[],[],[.s 3 (.dat .str)]⟩)]⟩ .no)) .no)))) Tryz.func100 (fun _ _=>by kernel_rfl) rfl fun v vals x z ha hz=>(rtext_i x).trans (Zwx hz)
end Go.Eng
set_option maxRecDepth 100000
set_option maxHeartbeats 4000000
namespace Go.Eng
open Go.Proofs Go.RowKit
def ZJm:FuncId×Con:=(55,⟨[.leaf 3,.leaf 4],[.bool],fun p=>Zwj p.1 p.2⟩)
theorem is1_i (x:Rat) (y:Rat):Zk ⟨Tryz.prog,[(38,0),(40,2),(42,3),(47,1),(49,4)],[ZLh,Z8k],[],[],[],[],[]⟩ [] Tryz.f55 .no [.leaf 3,.leaf 4] [.bool] (x,y)=Zwj x y:=by kernel_rfl
theorem is1_k:Zj Tryz.prog ZJm.1 ZJm.2:=Zm (C:=⟨Tryz.prog,[(38,0),(40,2),(42,3),(47,1),(49,4)],[ZLh,Z8k],[],[],[],[],[]⟩) ⟨ZGt,rtext_k,trivial⟩ trivial trivial trivial (inl:=[]) trivial (ann:=.no) Tryz.func55 (fun _ _=>by kernel_rfl) rfl fun v vals x z ha hz=>(is1_i x.1 x.2).trans (hz)
end Go.Eng
set_option maxRecDepth 100000
set_option maxHeartbeats 4000000
namespace Go.Eng
open Go.Proofs Go.RowKit
def Zbi:FuncId×Con:=(98,⟨[.pair (.leaf 4) (.pair (.leaf 4) (.pair (.leaf 4) (.leaf 4)))],[.bool],fun p=>Zmg p⟩)
theorem sZero_i (x:Rat×Rat×Rat×Rat):Zk ⟨Tryz.prog,[(38,0),(40,2),(42,3),(47,1),(49,4)],[Zjg],[],[],[],[],[]⟩ [] Tryz.f98 (.two .no (.two (.cut ⟨⟨[],[],[]⟩,[(.norm,⟨[],[],[.s 2 (.dat .bool)]⟩)]⟩ .no) .no)) [.pair (.leaf 4) (.pair (.leaf 4) (.pair (.leaf 4) (.leaf 4)))] [.bool] (x)=Zmg x:=by kernel_rfl
theorem Z3q:Zj Tryz.prog Zbi.1 Zbi.2:=Zm (C:=⟨Tryz.prog,[(38,0),(40,2),(42,3),(47,1),(49,4)],[Zjg],[],[],[],[],[]⟩) ⟨ZDo,trivial⟩ trivial trivial trivial (inl:=[]) trivial (ann:=(.two .no (.two (.cut ⟨⟨[],[],[]⟩,[(.norm,⟨[],[],[.s 2 (.dat .bool)]⟩)]⟩ .no) .no))) Tryz.func98 (fun _ _=>by kernel_rfl) rfl (fun v vals x z ha hz=>(sZero_i x).trans hz)
end Go.Eng
set_option maxRecDepth 100000
set_option maxHeartbeats 4000000
namespace Go.Eng
open Go.Proofs Go.RowKit
def ZXc:FuncId×Con:=(49,⟨[.pair (.pair (.leaf 4) (.pair (.leaf 4) (.pair (.leaf 4) (.leaf 4)))) (.pair (.leaf 4) (.pair (.leaf 4) (.pair (.leaf 4) (.leaf 4))))],[.bool],fun p=>ZYe p⟩)
theorem wZero_i (x:(Rat×Rat×Rat×Rat)×Rat×Rat×Rat×Rat):Zk ⟨Tryz.prog,[(38,0),(40,2),(42,3),(47,1),(49,4)],[Zbi],[],[],[],[],[]⟩ [] Tryz.f49 (.two .no (.two (.cut ⟨⟨[],[],[]⟩,[(.norm,⟨[],[],[.s 2 (.dat .bool)]⟩)]⟩ .no) .no)) [.pair (.pair (.leaf 4) (.pair (.leaf 4) (.pair (.leaf 4) (.leaf 4)))) (.pair (.leaf 4) (.pair (.leaf 4) (.pair (.leaf 4) (.leaf 4))))] [.bool] (x)=ZYe x:=by kernel_rfl
theorem Z3i:Zj Tryz.prog ZXc.1 ZXc.2:=Zm (C:=⟨Tryz.prog,[(38,0),(40,2),(42,3),(47,1),(49,4)],[Zbi],[],[],[],[],[]⟩) ⟨Z3q,trivial⟩ trivial trivial trivial (inl:=[]) trivial (ann:=(.two .no (.two (.cut ⟨⟨[],[],[]⟩,[(.norm,⟨[],[],[.s 2 (.dat .bool)]⟩)]⟩ .no) .no))) Tryz.func49 (fun _ _=>by kernel_rfl) rfl (fun v vals x z ha hz=>(wZero_i x).trans hz)
end Go.Eng
set_option maxRecDepth 100000
set_option maxHeartbeats 4000000
namespace Go.Eng
open Go.Proofs Go.RowKit
def ZGl:FuncId×Con:=(165,⟨[.leaf 1,.leaf 1],[.leaf 1],fun p=>ZQh p.1 p.2⟩)
theorem rsum_i (a:Nat) (b:Nat):Zk ⟨Tryz.prog,[(47,1),(49,4)],[ZAb],[],[],[],[],[]⟩ [] Tryz.f165 (.two .no (.two .no (.two .no (.two (.two .no (.cut ⟨⟨[],[],[]⟩,[(.norm,⟨[],[],[.s 5 (.own 196 (.int .u32)),.s 6 (.dat (.int .u64))]⟩)]⟩ (.two (.cut ⟨⟨[0,1],[],[.s 5 (.own 196 (.int .u32)),.s 6 (.dat (.int .u64)),.s 7 (.dat (.int .i64))]⟩,[(.exit 0,⟨[],[],[.s 5 (.own 196 (.int .u32)),.s 6 (.dat (.int .u64))]⟩)]⟩ (.two (.two (.two (.cut ⟨⟨[],[],[]⟩,[(.norm,⟨[0,1,5,6,7],[],[.s 18 (.dat .bool)]⟩)]⟩ .no) .no) (.two (.two (.two (.two .no (.cut ⟨⟨[],[],[]⟩,[(.norm,⟨[0,1,5,7],[],[.s 6 (.dat (.int .u64))]⟩)]⟩ .no)) (.two (.two .no (.cut ⟨⟨[],[],[]⟩,[(.norm,⟨[0,1,5,7],[],[.s 6 (.dat (.int .u64))]⟩)]⟩ .no)) .no)) .no) .no)) .no)) .no))) .no)))) [.leaf 1,.leaf 1] [.leaf 1] (a,b)=Zln a b:=by kernel_rfl
theorem rsum_k:Zj Tryz.prog ZGl.1 ZGl.2:=Zm (C:=⟨Tryz.prog,[(47,1),(49,4)],[ZAb],[],[],[],[],[]⟩) ⟨Z4f,trivial⟩ trivial trivial trivial (inl:=[]) trivial (ann:=.two .no (.two .no (.two .no (.two (.two .no (.cut ⟨⟨[],[],[]⟩,[(.norm,⟨[],[],[.s 5 (.own 196 (.int .u32)),.s 6 (.dat (.int .u64))]⟩)]⟩ (.two (.cut ⟨⟨[0,1],[],[.s 5 (.own 196 (.int .u32)),.s 6 (.dat (.int .u64)),.s 7 (.dat (.int .i64))]⟩,[(.exit 0,⟨[],[],[.s 5 (.own 196 (.int .u32)),.s 6 (.dat (.int .u64))]⟩)]⟩ (.two (.two (.two (.cut ⟨⟨[],[],[]⟩,[(.norm,⟨[0,1,5,6,7],[],[.s 18 (.dat .bool)]⟩)]⟩ .no) .no) (.two (.two (.two (.two .no (.cut ⟨⟨[],[],[]⟩,[(.norm,⟨[0,1,5,7],[],[.s 6 (.dat (.int .u64))]⟩)]⟩ .no)) (.two (.two .no (.cut ⟨⟨[],[],[]⟩,[(.norm,⟨[0,1,5,7],[],[.s 6 (.dat (.int .u64))]⟩)]⟩ .no)) .no)) .no) .no)) .no)) .no))) .no)))) Tryz.func165 (fun _ _=>by kernel_rfl) rfl fun v vals x z ha hz=>(rsum_i x.1 x.2).trans (ZYz hz)
theorem radd_eq {x y:Rat} (h:smQ x) (h':smQ y):ZUk x y=some (x+y):=by
 obtain ⟨a1,a2⟩:=h;obtain ⟨b1,b2⟩:=h';unfold ZUk ZXb;have p1:=Zib x.num.natAbs y.den;have p2:=Zib y.num.natAbs x.den;have p3:=Zib x.den y.den;have p4:=Z5o (x.num.natAbs*y.den) (y.num.natAbs*x.den);have hd:x.den*y.den≠0:=Nat.mul_ne_zero x.den_nz y.den_nz;have e1:Zua x.num.natAbs y.den=some (x.num.natAbs*y.den):=by unfold Zua;rw [if_pos ⟨Zvb (by omega),Zvb (by omega)⟩]
 have e2:Zua y.num.natAbs x.den=some (y.num.natAbs*x.den):=by unfold Zua;rw [if_pos ⟨Zvb (by omega),Zvb (by omega)⟩]
 have e3:Zua x.den y.den=some (x.den*y.den):=by unfold Zua;rw [if_pos ⟨Zvb (by omega),Zvb (by omega)⟩]
 have eN:((x.num.natAbs*y.den:Nat):Int)=(x.num.natAbs:Int)*y.den:=by simp
 have eM:((y.num.natAbs*x.den:Nat):Int)=(y.num.natAbs:Int)*x.den:=by simp
 have key:∀ (s:Bool) (n:Nat),bl n≤1099511627776→sgn s n=x.num*y.den+y.num*x.den→Znb s n (x.den*y.den)=some (x+y):=by
  intro s n hn he;unfold Znb;rw [if_pos ⟨ZQd hn,ZQd (by omega),hd⟩,he,← Rat.add_def']
 rw [Za,Za,e1,Za,e2,Za,e3];obtain ⟨N,hN⟩:∃ N,N=x.num.natAbs*y.den:=⟨_,rfl⟩;obtain ⟨M,hM⟩:∃ M,M=y.num.natAbs*x.den:=⟨_,rfl⟩;rw [← hN] at p1 p4 eN ⊢;rw [← hM] at p2 p4 eM ⊢;have sx:x.num*(y.den:Int)=if x.num<0 then -(N:Int) else N:=by
  split
  ·rw [eN,← Int.neg_mul];congr 1;omega
  ·rw [eN];congr 1;omega
 have sy:y.num*(x.den:Int)=if y.num<0 then -(M:Int) else M:=by
  split
  ·rw [eM,← Int.neg_mul];congr 1;omega
  ·rw [eM];congr 1;omega
 by_cases hs:(x.num<0)↔(y.num<0)
 ·have e4:ZQh N M=some (N+M):=by unfold ZQh;rw [if_pos ⟨Zvb (by omega),Zvb (by omega)⟩]
  have e5:((decide (x.num<0))==(decide (y.num<0)))=true:=by
   by_cases h:x.num<0
   ·simp [h,hs.1 h]
   ·have h2:¬ y.num<0:=fun k=>h (hs.2 k);simp [h,h2]
  rw [e5,Zf,e4,Za,Za,key _ _ (by omega) ?_,Za];rw [sx,sy];unfold sgn;by_cases h:x.num<0
  ·have h2:=hs.1 h;simp [h,h2];omega
  ·have h2:¬ y.num<0:=fun k=>h (hs.2 k);simp [h,h2]
 ·have e5:((decide (x.num<0))==(decide (y.num<0)))=false:=by
   apply beq_false_of_ne;intro h;exact hs (by by_cases k:x.num<0 <;> by_cases k2:y.num<0 <;> simp_all)
  rw [e5,Ze];unfold ZAd;rw [Za];by_cases hle:M≤N
  ·have e6:decide ((0:Int)≤Zka N M)=true:=by
    unfold Zka;rw [if_neg (by omega)];split <;> rfl
   have e4:Zfc N M=some (N-M):=by unfold Zfc;rw [if_pos ⟨Zvb (by omega),hle⟩]
   have hb:bl (N-M)≤bl N:=ZEe (by omega);rw [e6,Zf,e4,Za,Za,key _ _ (by omega) ?_,Za];rw [sx,sy];unfold sgn;by_cases h:x.num<0
   ·have h2:¬ y.num<0:=fun k=>hs ⟨fun _=>k,fun _=>h⟩;simp [h,h2];omega
   ·have h2:y.num<0:=by
     rcases Int.lt_or_le y.num 0 with k | k
     ·exact k
     ·exact absurd ⟨fun q=>absurd q h,fun q=>absurd q (by omega)⟩ hs
    simp [h,h2];omega
  ·have e6:decide ((0:Int)≤Zka N M)=false:=by
    unfold Zka;rw [if_pos (by omega)];rfl
   have e4:Zfc M N=some (M-N):=by unfold Zfc;rw [if_pos ⟨Zvb (by omega),by omega⟩]
   have hb:bl (M-N)≤bl M:=ZEe (by omega);rw [e6,Ze,e4,Za,Za,key _ _ (by omega) ?_,Za];rw [sx,sy];unfold sgn;by_cases h:x.num<0
   ·have h2:¬ y.num<0:=fun k=>hs ⟨fun _=>k,fun _=>h⟩;simp [h,h2];omega
   ·have h2:y.num<0:=by
     rcases Int.lt_or_le y.num 0 with k | k
     ·exact k
     ·exact absurd ⟨fun q=>absurd q h,fun q=>absurd q (by omega)⟩ hs
    simp [h,h2];omega
theorem Zov {x y z:Rat} (h:ZBa x y=some z):ZUk x y=some z:=by
 unfold ZBa at h;split at h
 ·rename_i hh;rw [radd_eq hh.1 hh.2,h]
 ·cases h
end Go.Eng
set_option maxRecDepth 100000
set_option maxHeartbeats 4000000
namespace Go.Eng
open Go.Proofs Go.RowKit
def ZSh:FuncId×Con:=(137,⟨[.leaf 4,.leaf 4],[.leaf 4],fun p=>ZBa p.1 p.2⟩)
theorem radd_i (x:Rat) (y:Rat):Zk ⟨Tryz.prog,[(47,1),(49,4)],[ZBc,ZNf,Z7c,ZWd,ZGl,Z6h],[],[],[],[],[]⟩ [] Tryz.f137 .no [.leaf 4,.leaf 4] [.leaf 4] (x,y)=ZUk x y:=by kernel_rfl
theorem ZWt:Zj Tryz.prog ZSh.1 ZSh.2:=Zm (C:=⟨Tryz.prog,[(47,1),(49,4)],[ZBc,ZNf,Z7c,ZWd,ZGl,Z6h],[],[],[],[],[]⟩) ⟨Zxh,ZDp,ZGj,Z2m,rsum_k,Zft,trivial⟩ trivial trivial trivial (inl:=[]) trivial (ann:=.no) Tryz.func137 (fun _ _=>by kernel_rfl) rfl fun v vals x z ha hz=>(radd_i x.1 x.2).trans (Zov hz)
end Go.Eng
set_option maxRecDepth 100000
set_option maxHeartbeats 4000000
namespace Go.Eng
open Go.Proofs Go.RowKit
def Zpe:FuncId×Con:=(104,⟨[.pair (.leaf 4) (.pair (.leaf 4) (.pair (.leaf 4) (.leaf 4))),.pair (.leaf 4) (.pair (.leaf 4) (.pair (.leaf 4) (.leaf 4)))],[.pair (.leaf 4) (.pair (.leaf 4) (.pair (.leaf 4) (.leaf 4)))],fun p=>Z4e p.1 p.2⟩)
theorem sAdd_i (x:Rat×Rat×Rat×Rat) (y:Rat×Rat×Rat×Rat):Zk ⟨Tryz.prog,[(38,0),(40,2),(42,3),(47,1),(49,4)],[ZSh],[],[],[],[],[]⟩ [] Tryz.f104 .no [.pair (.leaf 4) (.pair (.leaf 4) (.pair (.leaf 4) (.leaf 4))),.pair (.leaf 4) (.pair (.leaf 4) (.pair (.leaf 4) (.leaf 4)))] [.pair (.leaf 4) (.pair (.leaf 4) (.pair (.leaf 4) (.leaf 4)))] (x,y)=Z4e x y:=by kernel_rfl
theorem Zxk:Zj Tryz.prog Zpe.1 Zpe.2:=Zm (C:=⟨Tryz.prog,[(38,0),(40,2),(42,3),(47,1),(49,4)],[ZSh],[],[],[],[],[]⟩) ⟨ZWt,trivial⟩ trivial trivial trivial (inl:=[]) trivial (ann:=.no) Tryz.func104 (fun _ _=>by kernel_rfl) rfl (fun v vals x z ha hz=>(sAdd_i x.1 x.2).trans hz)
theorem rneg_eq {x:Rat} (h:okQ x):Z4k x=some (-x):=by
 obtain ⟨h1,h2⟩:=h;unfold Z4k ZXb Znb;rw [Za,if_pos ⟨ZQd h1,ZQd h2,x.den_nz⟩,Za];congr 1;have e:sgn (!(decide (x.num<0))) x.num.natAbs = -x.num:=by
  unfold sgn;by_cases h:x.num<0
  ·simp [h];omega
  ·simp [h];omega
 rw [e];exact Rat.mkRat_self (-x)
theorem Z6z {x z:Rat} (h:Z5b x=some z):Z4k x=some z:=by
 unfold Z5b at h;split at h
 ·rename_i hh;rw [rneg_eq hh,h]
 ·cases h
end Go.Eng
set_option maxRecDepth 100000
set_option maxHeartbeats 4000000
namespace Go.Eng
open Go.Proofs Go.RowKit
def Z8h:FuncId×Con:=(138,⟨[.leaf 4],[.leaf 4],fun p=>Z5b p⟩)
theorem rneg_i (x:Rat):Zk ⟨Tryz.prog,[(47,1),(49,4)],[ZBc,Z7c],[],[],[],[],[]⟩ [] Tryz.f138 .no [.leaf 4] [.leaf 4] (x)=Z4k x:=by kernel_rfl
theorem Zzt:Zj Tryz.prog Z8h.1 Z8h.2:=Zm (C:=⟨Tryz.prog,[(47,1),(49,4)],[ZBc,Z7c],[],[],[],[],[]⟩) ⟨Zxh,ZGj,trivial⟩ trivial trivial trivial (inl:=[]) trivial (ann:=.no) Tryz.func138 (fun _ _=>by kernel_rfl) rfl fun v vals x z ha hz=>(rneg_i x).trans (Z6z hz)
end Go.Eng
set_option maxRecDepth 100000
set_option maxHeartbeats 4000000
namespace Go.Eng
open Go.Proofs Go.RowKit
def ZAf:FuncId×Con:=(105,⟨[.pair (.leaf 4) (.pair (.leaf 4) (.pair (.leaf 4) (.leaf 4)))],[.pair (.leaf 4) (.pair (.leaf 4) (.pair (.leaf 4) (.leaf 4)))],fun p=>Zef p⟩)
theorem sNeg_i (x:Rat×Rat×Rat×Rat):Zk ⟨Tryz.prog,[(38,0),(40,2),(42,3),(47,1),(49,4)],[Z8h],[],[],[],[],[]⟩ [] Tryz.f105 .no [.pair (.leaf 4) (.pair (.leaf 4) (.pair (.leaf 4) (.leaf 4)))] [.pair (.leaf 4) (.pair (.leaf 4) (.pair (.leaf 4) (.leaf 4)))] (x)=Zef x:=by kernel_rfl
theorem Zzn:Zj Tryz.prog ZAf.1 ZAf.2:=Zm (C:=⟨Tryz.prog,[(38,0),(40,2),(42,3),(47,1),(49,4)],[Z8h],[],[],[],[],[]⟩) ⟨Zzt,trivial⟩ trivial trivial trivial (inl:=[]) trivial (ann:=.no) Tryz.func105 (fun _ _=>by kernel_rfl) rfl (fun v vals x z ha hz=>(sNeg_i x).trans hz)
end Go.Eng
set_option maxRecDepth 100000
set_option maxHeartbeats 4000000
namespace Go.Eng
open Go.Proofs Go.RowKit
def ZDh:FuncId×Con:=(102,⟨[.pair (.leaf 4) (.pair (.leaf 4) (.pair (.leaf 4) (.leaf 4))),.pair (.leaf 4) (.pair (.leaf 4) (.pair (.leaf 4) (.leaf 4)))],[.pair (.leaf 4) (.pair (.leaf 4) (.pair (.leaf 4) (.leaf 4)))],fun p=>ZPg p.1 p.2⟩)
theorem sSub_i (x:Rat×Rat×Rat×Rat) (y:Rat×Rat×Rat×Rat):Zk ⟨Tryz.prog,[(38,0),(40,2),(42,3),(47,1),(49,4)],[Zpe,ZAf],[],[],[],[],[]⟩ [] Tryz.f102 .no [.pair (.leaf 4) (.pair (.leaf 4) (.pair (.leaf 4) (.leaf 4))),.pair (.leaf 4) (.pair (.leaf 4) (.pair (.leaf 4) (.leaf 4)))] [.pair (.leaf 4) (.pair (.leaf 4) (.pair (.leaf 4) (.leaf 4)))] (x,y)=ZPg x y:=by kernel_rfl
theorem Zrt:Zj Tryz.prog ZDh.1 ZDh.2:=Zm (C:=⟨Tryz.prog,[(38,0),(40,2),(42,3),(47,1),(49,4)],[Zpe,ZAf],[],[],[],[],[]⟩) ⟨Zxk,Zzn,trivial⟩ trivial trivial trivial (inl:=[]) trivial (ann:=.no) Tryz.func102 (fun _ _=>by kernel_rfl) rfl (fun v vals x z ha hz=>(sSub_i x.1 x.2).trans hz)
end Go.Eng
set_option maxRecDepth 100000
set_option maxHeartbeats 4000000
namespace Go.Eng
open Go.Proofs Go.RowKit
def Zri:FuncId×Con:=(78,⟨[.pair (.pair (.leaf 4) (.pair (.leaf 4) (.pair (.leaf 4) (.leaf 4)))) (.pair (.leaf 4) (.pair (.leaf 4) (.pair (.leaf 4) (.leaf 4)))),.pair (.pair (.leaf 4) (.pair (.leaf 4) (.pair (.leaf 4) (.leaf 4)))) (.pair (.leaf 4) (.pair (.leaf 4) (.pair (.leaf 4) (.leaf 4))))],[.pair (.pair (.leaf 4) (.pair (.leaf 4) (.pair (.leaf 4) (.leaf 4)))) (.pair (.leaf 4) (.pair (.leaf 4) (.pair (.leaf 4) (.leaf 4))))],fun p=>Zqi p.1 p.2⟩)
theorem wSub_i (x:(Rat×Rat×Rat×Rat)×Rat×Rat×Rat×Rat) (y:(Rat×Rat×Rat×Rat)×Rat×Rat×Rat×Rat):Zk ⟨Tryz.prog,[(38,0),(40,2),(42,3),(47,1),(49,4)],[ZDh],[],[],[],[],[]⟩ [] Tryz.f78 .no [.pair (.pair (.leaf 4) (.pair (.leaf 4) (.pair (.leaf 4) (.leaf 4)))) (.pair (.leaf 4) (.pair (.leaf 4) (.pair (.leaf 4) (.leaf 4)))),.pair (.pair (.leaf 4) (.pair (.leaf 4) (.pair (.leaf 4) (.leaf 4)))) (.pair (.leaf 4) (.pair (.leaf 4) (.pair (.leaf 4) (.leaf 4))))] [.pair (.pair (.leaf 4) (.pair (.leaf 4) (.pair (.leaf 4) (.leaf 4)))) (.pair (.leaf 4) (.pair (.leaf 4) (.pair (.leaf 4) (.leaf 4))))] (x,y)=Zqi x y:=by kernel_rfl
theorem ZEq:Zj Tryz.prog Zri.1 Zri.2:=Zm (C:=⟨Tryz.prog,[(38,0),(40,2),(42,3),(47,1),(49,4)],[ZDh],[],[],[],[],[]⟩) ⟨Zrt,trivial⟩ trivial trivial trivial (inl:=[]) trivial (ann:=.no) Tryz.func78 (fun _ _=>by kernel_rfl) rfl (fun v vals x z ha hz=>(wSub_i x.1 x.2).trans hz)
end Go.Eng
set_option maxRecDepth 100000
set_option maxHeartbeats 4000000
namespace Go.Eng
open Go.Proofs Go.RowKit
def ZWl:FuncId×Con:=(56,⟨[.pair (.pair (.leaf 4) (.pair (.leaf 4) (.pair (.leaf 4) (.leaf 4)))) (.pair (.leaf 4) (.pair (.leaf 4) (.pair (.leaf 4) (.leaf 4)))),.pair (.pair (.leaf 4) (.pair (.leaf 4) (.pair (.leaf 4) (.leaf 4)))) (.pair (.leaf 4) (.pair (.leaf 4) (.pair (.leaf 4) (.leaf 4))))],[.bool],fun p=>ZUj p.1 p.2⟩)
theorem wSame_i (x:(Rat×Rat×Rat×Rat)×Rat×Rat×Rat×Rat) (y:(Rat×Rat×Rat×Rat)×Rat×Rat×Rat×Rat):Zk ⟨Tryz.prog,[(38,0),(40,2),(42,3),(47,1),(49,4)],[ZXc,Zri],[],[],[],[],[]⟩ [] Tryz.f56 .no [.pair (.pair (.leaf 4) (.pair (.leaf 4) (.pair (.leaf 4) (.leaf 4)))) (.pair (.leaf 4) (.pair (.leaf 4) (.pair (.leaf 4) (.leaf 4)))),.pair (.pair (.leaf 4) (.pair (.leaf 4) (.pair (.leaf 4) (.leaf 4)))) (.pair (.leaf 4) (.pair (.leaf 4) (.pair (.leaf 4) (.leaf 4))))] [.bool] (x,y)=ZUj x y:=by kernel_rfl
theorem wSame_k:Zj Tryz.prog ZWl.1 ZWl.2:=Zm (C:=⟨Tryz.prog,[(38,0),(40,2),(42,3),(47,1),(49,4)],[ZXc,Zri],[],[],[],[],[]⟩) ⟨Z3i,ZEq,trivial⟩ trivial trivial trivial (inl:=[]) trivial (ann:=.no) Tryz.func56 (fun _ _=>by kernel_rfl) rfl (fun v vals x z ha hz=>(wSame_i x.1 x.2).trans hz)
end Go.Eng
set_option maxRecDepth 100000
set_option maxHeartbeats 4000000
namespace Go.Eng
open Go.Proofs Go.RowKit
def Zgh:FuncId×Con:=(14,⟨[.slice (.leaf 3),.slice (.pair (.pair (.leaf 4) (.pair (.leaf 4) (.pair (.leaf 4) (.leaf 4)))) (.pair (.leaf 4) (.pair (.leaf 4) (.pair (.leaf 4) (.leaf 4)))))],[.bool],fun p=>Zde p.1 p.2⟩)
theorem is2_i (x:List Rat) (y:List ((Rat×Rat×Rat×Rat)×Rat×Rat×Rat×Rat)):Zk ⟨Tryz.prog,[(38,0),(40,2),(42,3),(47,1),(49,4)],[ZYc,ZJm,ZWl],[],[],[],[],[]⟩ [] Tryz.f14 (.two .no (.two .no (.two (.two .no (.two (.cut ⟨⟨[0,1,12],[],[.s 13 (.dat (.int .i64))]⟩,[(.exit 0,⟨[],[],[]⟩),(.ret,⟨[],[],[.s 1000 (.dat .bool)]⟩)]⟩ (.two (.two .no (.two .no (.two (.two (.two .no (.two (.cut ⟨⟨[],[],[]⟩,[(.norm,⟨[0,1,12,13],[],[.s 42 (.dat .bool)]⟩)]⟩ .no) .no)) .no) .no))) .no)) .no)) .no))) [.slice (.leaf 3),.slice (.pair (.pair (.leaf 4) (.pair (.leaf 4) (.pair (.leaf 4) (.leaf 4)))) (.pair (.leaf 4) (.pair (.leaf 4) (.pair (.leaf 4) (.leaf 4)))))] [.bool] (x,y)=Zde x y:=by kernel_rfl
theorem is2_k:Zj Tryz.prog Zgh.1 Zgh.2:=Zm (C:=⟨Tryz.prog,[(38,0),(40,2),(42,3),(47,1),(49,4)],[ZYc,ZJm,ZWl],[],[],[],[],[]⟩) ⟨ZHj,is1_k,wSame_k,trivial⟩ trivial trivial trivial (inl:=[]) trivial (ann:=(.two .no (.two .no (.two (.two .no (.two (.cut ⟨⟨[0,1,12],[],[.s 13 (.dat (.int .i64))]⟩,[(.exit 0,⟨[],[],[]⟩),(.ret,⟨[],[],[.s 1000 (.dat .bool)]⟩)]⟩ (.two (.two .no (.two .no (.two (.two (.two .no (.two (.cut ⟨⟨[],[],[]⟩,[(.norm,⟨[0,1,12,13],[],[.s 42 (.dat .bool)]⟩)]⟩ .no) .no)) .no) .no))) .no)) .no)) .no)))) Tryz.func14 (fun _ _=>by kernel_rfl) rfl (fun v vals x z ha hz=>(is2_i x.1 x.2).trans hz)
end Go.Eng
set_option maxRecDepth 100000
set_option maxHeartbeats 4000000
namespace Go.Eng
open Go.Proofs Go.RowKit
def ZHh:FuncId×Con:=(21,⟨[.slice (.slice (.leaf 3)),.slice (.slice (.pair (.pair (.leaf 4) (.pair (.leaf 4) (.pair (.leaf 4) (.leaf 4)))) (.pair (.leaf 4) (.pair (.leaf 4) (.pair (.leaf 4) (.leaf 4))))))],[.bool],fun p=>ZGe p.1 p.2⟩)
theorem ZUv (x:List (List Rat)) (y:List (List ((Rat×Rat×Rat×Rat)×Rat×Rat×Rat×Rat))):Zk ⟨Tryz.prog,[(38,0),(40,2),(42,3),(47,1),(49,4)],[Zgh],[],[],[],[],[]⟩ [] Tryz.f21 (.two .no (.two .no (.two (.two .no (.two (.cut ⟨⟨[0,1,12],[],[.s 13 (.dat (.int .i64))]⟩,[(.exit 0,⟨[],[],[]⟩),(.ret,⟨[],[],[.s 1000 (.dat .bool)]⟩)]⟩ .no) .no)) .no))) [.slice (.slice (.leaf 3)),.slice (.slice (.pair (.pair (.leaf 4) (.pair (.leaf 4) (.pair (.leaf 4) (.leaf 4)))) (.pair (.leaf 4) (.pair (.leaf 4) (.pair (.leaf 4) (.leaf 4))))))] [.bool] (x,y)=ZGe x y:=by kernel_rfl
theorem ZFr:Zj Tryz.prog ZHh.1 ZHh.2:=Zm (C:=⟨Tryz.prog,[(38,0),(40,2),(42,3),(47,1),(49,4)],[Zgh],[],[],[],[],[]⟩) ⟨is2_k,trivial⟩ trivial trivial trivial (inl:=[]) trivial (ann:=(.two .no (.two .no (.two (.two .no (.two (.cut ⟨⟨[0,1,12],[],[.s 13 (.dat (.int .i64))]⟩,[(.exit 0,⟨[],[],[]⟩),(.ret,⟨[],[],[.s 1000 (.dat .bool)]⟩)]⟩ .no) .no)) .no)))) Tryz.func21 (fun _ _=>by kernel_rfl) rfl (fun v vals x z ha hz=>(ZUv x.1 x.2).trans hz)
end Go.Eng
set_option maxRecDepth 100000
set_option maxHeartbeats 4000000
namespace Go.Eng
open Go.Proofs Go.RowKit
def Z1d:FuncId×Con:=(44,⟨[.slice (.slice (.leaf 3))],[.int .i64],fun p=>Zsd p⟩)
theorem Z0y (m:List (List Rat)):Zk ⟨Tryz.prog,[(38,0),(40,2),(42,3),(47,1),(49,4)],[],[],[],[],[],[]⟩ [] Tryz.f44 .no [.slice (.slice (.leaf 3))] [.int .i64] (m)=Zsd m:=by kernel_rfl
theorem ZVl:Zj Tryz.prog Z1d.1 Z1d.2:=Zm (C:=⟨Tryz.prog,[(38,0),(40,2),(42,3),(47,1),(49,4)],[],[],[],[],[],[]⟩) trivial trivial trivial trivial (inl:=[]) trivial (ann:=.no) Tryz.func44 (fun _ _=>by kernel_rfl) rfl (fun v vals x z ha hz=>(Z0y x).trans hz)
end Go.Eng
set_option maxRecDepth 100000
set_option maxHeartbeats 4000000
namespace Go.Eng
open Go.Proofs Go.RowKit
def Zye:FuncId×Con:=(43,⟨[.slice (.slice (.leaf 3))],[.bool],fun p=>ZDe p⟩)
theorem ZLw (m:List (List Rat)):Zk ⟨Tryz.prog,[(38,0),(40,2),(42,3),(47,1),(49,4)],[Z1d],[],[],[],[],[]⟩ [(96,Tryz.f96,.no),(97,Tryz.f97,.no),(131,Tryz.f131,.cut ⟨⟨[],[],[]⟩,[(.ret,⟨[],[],[.s 1000 (.dat (.int .i64))]⟩)]⟩ (.two .no (.two (.two .no (.two (.cut ⟨⟨[0,1,7],[],[.s 8 (.dat (.int .i64))]⟩,[(.exit 0,⟨[],[],[]⟩),(.ret,⟨[],[],[.s 1000 (.dat (.int .i64))]⟩)]⟩ .no) .no)) .no)))] Tryz.f43 (.two .no (.two .no (.two (.cut ⟨⟨[],[],[]⟩,[(.norm,⟨[],[],[.s 2 (.dat .bool)]⟩)]⟩ .no) .no))) [.slice (.slice (.leaf 3))] [.bool] (m)=ZDe m:=by kernel_rfl
theorem Zwl:Zj Tryz.prog Zye.1 Zye.2:=Zm (C:=⟨Tryz.prog,[(38,0),(40,2),(42,3),(47,1),(49,4)],[Z1d],[],[],[],[],[]⟩) ⟨ZVl,trivial⟩ trivial trivial trivial (inl:=[(96,Tryz.f96,.no),(97,Tryz.f97,.no),(131,Tryz.f131,.cut ⟨⟨[],[],[]⟩,[(.ret,⟨[],[],[.s 1000 (.dat (.int .i64))]⟩)]⟩ (.two .no (.two (.two .no (.two (.cut ⟨⟨[0,1,7],[],[.s 8 (.dat (.int .i64))]⟩,[(.exit 0,⟨[],[],[]⟩),(.ret,⟨[],[],[.s 1000 (.dat (.int .i64))]⟩)]⟩ .no) .no)) .no)))]) ⟨⟨Tryz.func96,fun _ _=>by kernel_rfl⟩,⟨Tryz.func97,fun _ _=>by kernel_rfl⟩,⟨Tryz.func131,fun _ _=>by kernel_rfl⟩,trivial⟩ (ann:=(.two .no (.two .no (.two (.cut ⟨⟨[],[],[]⟩,[(.norm,⟨[],[],[.s 2 (.dat .bool)]⟩)]⟩ .no) .no)))) Tryz.func43 (fun _ _=>by kernel_rfl) rfl (fun v vals x z ha hz=>(ZLw x).trans hz)
end Go.Eng
namespace Go.Eng
open Go.Proofs Go.RowKit
set_option maxRecDepth 100000
theorem ZFt:Elem Tryz.prog 30 42 (Zzb).n 56 (Value.agg #[Value.bool false,Value.slice none 0 0,Value.slice none 0 0]):=⟨Tryz.underlying30,by kernel_rfl,rfl,by decide⟩
def Z3c:FuncId×ConO:=(68,⟨[.slice (.leaf 3)],42,.leaf 3,fun p=>Zoc 56 p⟩)
theorem Z8i:ZTg Tryz.prog Z3c.1 Z3c.2:=fun w v vals x z hv ha hz=>by
 obtain ⟨cs,rfl,p0⟩:=ha
 have hz:Zoc 56 (show List Rat from x)=some z:=hz
 obtain ⟨hb,rfl⟩:=ZAA hz
 obtain ⟨q,n,c,rfl⟩:=ZAg (show (Zw Zzb).rel v cs z from p0)
 refine ⟨fun _ _=>by kernel_rfl,?_⟩
 have hn:n=(show List Rat from z).length:=by obtain ⟨_,_,e,_⟩:=p0;cases e;rfl
 refine Zul (K:=8) (args:=[.slice q n c]) hv Tryz.func68 rfl rfl zl fun fa hS=>?_
 refine sr ?_
 refine mw hS rfl fun fa hS=>?_
 refine oe ?_
 refine wp_seq_k fun N1 hN1=>?_
 refine sr ?_
 refine mv hS rfl fun fa hS=>?_
 refine ov hS rfl (Z9u hS Tryz.underlying30 rfl rfl) fun fa hS=>?_
 refine oe ?_
 cases q with
 | none =>
  refine ZX hS rfl rfl ?_
  have hx:(show List Rat from z)=[]:=by
   obtain ⟨q',c',e,_,_,h3⟩:=p0
   cases e
   rcases h3 with h3 | ⟨_,_,_,_,_,h4,_⟩
   ·exact h3
   ·cases h4
  have hx0:n=0:=by rw [hn,hx];rfl
  refine sr ?_;refine mw hS rfl fun fa hS=>?_;refine oe ?_;refine wp_ret ?_;refine Zbb ?_;have hS2:=hS.nilLoc 42 (Zzb).n;have:=Z6o (P:=Tryz.prog) (A:=Zzb) hS2 (i:=0) (ob:=none) (n:=0) (cap:=0) (cs:=[]) rfl (ZZa (fn:=Tryz.f68) (r:=.tmp 2) rfl (ZY (t:=2) (y:=.slice (mkA none) 0 0) hS2 rfl)) (l:=([]:List Rat)) Zvd rfl;rw [hx];exact this
 | some ad =>
  refine ZR hS rfl rfl ?_;refine wp_skip ?_;refine Zh (hN1 _ _ ?_);refine sr ?_;obtain ⟨b,wo,hrun,hS⟩:=Zfx ZFt hS;refine ZYb wn rfl zl hrun hS fun fa hS=>?_;refine mv hS rfl fun fa hS=>?_;obtain ⟨b',cap',cs2,wo,hr,hS',hrel⟩:=ZLg (ty:=30) (A:=Zzb) ZFt hS (i:=0) rfl (Rep.mono (Zw Zzb) hS.vst.le p0) (n':=n) (by omega) (by rw [hn];exact hb) (by decide);refine ZYb wn rfl zl (ZFe hS rfl rfl hr) hS' fun fa hS=>?_;refine mw hS rfl fun fa hS=>?_;refine oe ?_;refine wp_ret ?_;exact Z6o hS (i:=0) rfl (ZZa rfl (ZY hS rfl)) hrel hn
end Go.Eng
set_option maxRecDepth 100000
set_option maxHeartbeats 4000000
namespace Go.Eng
open Go.Proofs Go.RowKit
def Ztm:FuncId×Con:=(222,⟨[.leaf 3,.leaf 3],[.leaf 3],fun p=>Zrm p.1 p.2⟩)
theorem qOf_i (x:Rat) (y:Rat):Zk ⟨Tryz.prog,[(38,0),(40,2),(42,3),(47,1),(49,4)],[],[],[],[],[],[]⟩ [] Tryz.f222 .no [.leaf 3,.leaf 3] [.leaf 3] (x,y)=Zrm x y:=by kernel_rfl
theorem qOf_k:Zj Tryz.prog Ztm.1 Ztm.2:=Zm (C:=⟨Tryz.prog,[(38,0),(40,2),(42,3),(47,1),(49,4)],[],[],[],[],[],[]⟩) trivial trivial trivial trivial (inl:=[]) trivial (ann:=.no) Tryz.func222 (fun _ _=>by kernel_rfl) rfl (fun v vals x z ha hz=>(qOf_i x.1 x.2).trans hz)
end Go.Eng
set_option maxRecDepth 100000
namespace Go.Eng
open Go.Proofs Go.RowKit
theorem Z7o : ∀ y w, (method (Tryz.prog.types.size + Made.depth) 42 y "Add").run Tryz.prog w = .ok (215, y) w := fun _ _ => by kernel_rfl
theorem Zhr : ∀ y w, (method (Tryz.prog.types.size + Made.depth) 42 y "Cmp").run Tryz.prog w = .ok (216, y) w := fun _ _ => by kernel_rfl
theorem ZEp : ∀ y w, (method (Tryz.prog.types.size + Made.depth) 42 y "Div").run Tryz.prog w = .ok (218, y) w := fun _ _ => by kernel_rfl
theorem ZSi : ∀ y w, (method (Tryz.prog.types.size + Made.depth) 42 y "Mul").run Tryz.prog w = .ok (219, y) w := fun _ _ => by kernel_rfl
theorem Zck : ∀ y w, (method (Tryz.prog.types.size + Made.depth) 42 y "Neg").run Tryz.prog w = .ok (221, y) w := fun _ _ => by kernel_rfl
theorem ZXv : ∀ y w, (method (Tryz.prog.types.size + Made.depth) 42 y "Of").run Tryz.prog w = .ok (222, y) w := fun _ _ => by kernel_rfl
theorem Zew : ∀ y w, (method (Tryz.prog.types.size + Made.depth) 42 y "Same").run Tryz.prog w = .ok (223, y) w := fun _ _ => by kernel_rfl
theorem ZJp : ∀ y w, (method (Tryz.prog.types.size + Made.depth) 42 y "Sign").run Tryz.prog w = .ok (173, y) w := fun _ _ => by kernel_rfl
theorem Zmp : ∀ y w, (method (Tryz.prog.types.size + Made.depth) 42 y "Sub").run Tryz.prog w = .ok (224, y) w := fun _ _ => by kernel_rfl
theorem Zll : ∀ y w, (method (Tryz.prog.types.size + Made.depth) 42 y "Zero").run Tryz.prog w = .ok (172, y) w := fun _ _ => by kernel_rfl
end Go.Eng
set_option maxRecDepth 100000
set_option maxHeartbeats 4000000
namespace Go.Eng
open Go.Proofs Go.RowKit
def ZCb:FuncId×Con:=(75,⟨[.int .i64],[.leaf 3],fun p=>Zyb p⟩)
theorem Zrz (n : Int) : Zk ⟨Tryz.prog, [(38, 0), (40, 2), (42, 3), (47, 1), (49, 4)], [Zrh, Ztm], [], [], [], [((42, "Of"), 222)], []⟩ [] Tryz.f75 .no [.int .i64] [.leaf 3] (n) = Zyb n := by kernel_rfl
theorem Zeg : Zj Tryz.prog ZCb.1 ZCb.2 := Zm (C := ⟨Tryz.prog, [(38, 0), (40, 2), (42, 3), (47, 1), (49, 4)], [Zrh, Ztm], [], [], [], [((42, "Of"), 222)], []⟩) ⟨ZTt, qOf_k, trivial⟩ trivial trivial ⟨ZXv, trivial⟩ (inl := []) trivial (ann := .no) Tryz.func75 (fun _ _ => by kernel_rfl) rfl (fun v vals x z ha hz => (Zrz x).trans hz)
end Go.Eng
set_option maxRecDepth 100000
set_option maxHeartbeats 4000000
namespace Go.Eng
open Go.Proofs Go.RowKit
def ZUc:FuncId×Con:=(172,⟨[.leaf 3],[.bool],fun p=>ZAc p⟩)
theorem qzero_i (x:Rat):Zk ⟨Tryz.prog,[(38,0),(40,2),(42,3)],[],[],[],[],[],[]⟩ [] Tryz.f172 .no [.leaf 3] [.bool] (x)=Zcq x:=by kernel_rfl
theorem ZOi:Zj Tryz.prog ZUc.1 ZUc.2:=Zm (C:=⟨Tryz.prog,[(38,0),(40,2),(42,3)],[],[],[],[],[],[]⟩) trivial trivial trivial trivial (inl:=[]) trivial (ann:=.no) Tryz.func172 (fun _ _=>by kernel_rfl) rfl fun v vals x z ha hz=>(qzero_i x).trans (ZGy hz)
end Go.Eng
set_option maxRecDepth 100000
set_option maxHeartbeats 4000000
namespace Go.Eng
open Go.Proofs Go.RowKit
def Z5f:FuncId×Con:=(191,⟨[.leaf 0],[.leaf 0],fun p=>Z1c p⟩)
theorem under_i (d:Nat):Zk ⟨Tryz.prog,[(38,0),(40,2),(42,3)],[Z2f],[],[],[],[],[]⟩ [] Tryz.f191 .no [.leaf 0] [.leaf 0] (d)=ZTo d:=by kernel_rfl
theorem Zzq:Zj Tryz.prog Z5f.1 Z5f.2:=Zm (C:=⟨Tryz.prog,[(38,0),(40,2),(42,3)],[Z2f],[],[],[],[],[]⟩) ⟨ZRp,trivial⟩ trivial trivial trivial (inl:=[]) trivial (ann:=.no) Tryz.func191 (fun _ _=>by kernel_rfl) rfl fun v vals x z ha hz=>(under_i x).trans (Zly hz)
end Go.Eng
set_option maxRecDepth 100000
set_option maxHeartbeats 4000000
namespace Go.Eng
open Go.Proofs Go.RowKit
def Zin:FuncId×Con:=(170,⟨[.int .u64,.int .u64],[.int .u64,.int .u64],fun p=>ZMc p.1 p.2⟩)
theorem mul64_i (x:Int) (y:Int):Zk ⟨Tryz.prog,[],[],[],[],[],[],[]⟩ [] Tryz.f170 .no [.int .u64,.int .u64] [.int .u64,.int .u64] (x,y)=ZWh x y:=by kernel_rfl
theorem mul64_k:Zj Tryz.prog Zin.1 Zin.2:=Zm (C:=⟨Tryz.prog,[],[],[],[],[],[],[]⟩) trivial trivial trivial trivial (inl:=[]) trivial (ann:=.no) Tryz.func170 (fun _ _=>by kernel_rfl) rfl fun v vals x z ha hz=>(mul64_i x.1 x.2).trans (Zvs hz)
end Go.Eng
set_option maxRecDepth 100000
set_option maxHeartbeats 4000000
namespace Go.Eng
open Go.Proofs Go.RowKit
def Zki:FuncId×Con:=(195,⟨[.int .u64,.int .u64,.int .u64],[.int .u64,.int .u64],fun p=>ZHb p.1 p.2.1 p.2.2⟩)
theorem ZQt:Zj Tryz.prog Zki.1 Zki.2:=fun w v vals x z _ ha hz=>by
 obtain ⟨c0,w0,e0,p0,c1,w1,e1,p1,c2,e2,p2⟩:=ha
 subst e0 e1 e2
 obtain ⟨rfl,h0⟩:=p0
 obtain ⟨rfl,h1⟩:=p1
 obtain ⟨rfl,h2⟩:=p2
 have p0:(Zd .u64).rel v [.int .u64 x.1] x.1:=⟨rfl,h0⟩
 have p1:(Zd .u64).rel v [.int .u64 x.2.1] x.2.1:=⟨rfl,h1⟩
 exact .inr ⟨.tuple #[.int .u64 z.1,.int .u64 z.2],fun w=>Zbo (show ZKf Tryz.prog 195 add64Entry from ⟨_,Tryz.func195,by kernel_rfl,by kernel_rfl,by kernel_rfl,by kernel_rfl⟩) hz w,_,rfl,_,_,rfl,⟨rfl,Zzp hz⟩,_,rfl,⟨rfl,addW_hi p0.2 p1.2 hz⟩⟩
end Go.Eng
set_option maxRecDepth 100000
set_option maxHeartbeats 4000000
namespace Go.Eng
open Go.Proofs Go.RowKit
def Zhd:FuncId×Con:=(227,⟨[.leaf 0,.leaf 0],[.leaf 0],fun p=>ZGc p.1 p.2⟩)
theorem times_i (a:Nat) (b:Nat):Zk ⟨Tryz.prog,[(38,0)],[ZUf,ZOh,Zin,Zki],[],[],[],[],[]⟩ [] Tryz.f227 (.two .no (.two .no (.two .no (.two .no (.two (.two .no (.cut ⟨⟨[],[],[]⟩,[(.norm,⟨[],[],[.s 5 (.own 176 (.int .u64))]⟩)]⟩ (.two (.cut ⟨⟨[1,26,27],[],[.s 5 (.own 176 (.int .u64)),.s 28 (.dat (.int .i64))]⟩,[(.exit 0,⟨[],[],[.s 5 (.own 176 (.int .u64))]⟩)]⟩ (.two (.two .no (.two .no (.two (.two (.two .no (.two .no (.two (.two .no (.cut ⟨⟨[],[],[]⟩,[(.norm,⟨[1,6,26,27,28],[],[.s 5 (.own 176 (.int .u64)),.s 8 (.dat (.int .u64))]⟩)]⟩ (.two (.cut ⟨⟨[1,6,7,26,27,28,33,34],[],[.s 5 (.own 176 (.int .u64)),.s 8 (.dat (.int .u64)),.s 35 (.dat (.int .i64))]⟩,[(.exit 2,⟨[1,6,26,27,28],[],[.s 5 (.own 176 (.int .u64)),.s 8 (.dat (.int .u64))]⟩)]⟩ .no) .no))) .no))) .no) .no))) .no)) .no))) .no))))) [.leaf 0,.leaf 0] [.leaf 0] (a,b)=Z9m a b:=by kernel_rfl
theorem Zgj:Zj Tryz.prog Zhd.1 Zhd.2:=Zm (C:=⟨Tryz.prog,[(38,0)],[ZUf,ZOh,Zin,Zki],[],[],[],[],[]⟩) ⟨cut_k,Z6t,mul64_k,ZQt,trivial⟩ trivial trivial trivial (inl:=[]) trivial (ann:=.two .no (.two .no (.two .no (.two .no (.two (.two .no (.cut ⟨⟨[],[],[]⟩,[(.norm,⟨[],[],[.s 5 (.own 176 (.int .u64))]⟩)]⟩ (.two (.cut ⟨⟨[1,26,27],[],[.s 5 (.own 176 (.int .u64)),.s 28 (.dat (.int .i64))]⟩,[(.exit 0,⟨[],[],[.s 5 (.own 176 (.int .u64))]⟩)]⟩ (.two (.two .no (.two .no (.two (.two (.two .no (.two .no (.two (.two .no (.cut ⟨⟨[],[],[]⟩,[(.norm,⟨[1,6,26,27,28],[],[.s 5 (.own 176 (.int .u64)),.s 8 (.dat (.int .u64))]⟩)]⟩ (.two (.cut ⟨⟨[1,6,7,26,27,28,33,34],[],[.s 5 (.own 176 (.int .u64)),.s 8 (.dat (.int .u64)),.s 35 (.dat (.int .i64))]⟩,[(.exit 2,⟨[1,6,26,27,28],[],[.s 5 (.own 176 (.int .u64)),.s 8 (.dat (.int .u64))]⟩)]⟩ .no) .no))) .no))) .no) .no))) .no)) .no))) .no))))) Tryz.func227 (fun _ _=>by kernel_rfl) rfl fun v vals x z ha hz=>(times_i x.1 x.2).trans (ZIy hz)
end Go.Eng
set_option maxRecDepth 100000
set_option maxHeartbeats 4000000
namespace Go.Eng
open Go.Proofs Go.RowKit
def ZAi:FuncId×Con:=(225,⟨[.leaf 2,.leaf 0],[.leaf 2],fun p=>Zpf p.1 p.2⟩)
theorem Znw (x:Int) (n:Nat):Zk ⟨Tryz.prog,[(38,0),(40,2),(42,3)],[Zic,Zhd],[],[],[],[],[]⟩ [] Tryz.f225 .no [.leaf 2,.leaf 0] [.leaf 2] (x,n)=Zip x n:=by kernel_rfl
theorem ZLr:Zj Tryz.prog ZAi.1 ZAi.2:=Zm (C:=⟨Tryz.prog,[(38,0),(40,2),(42,3)],[Zic,Zhd],[],[],[],[],[]⟩) ⟨Zyi,Zgj,trivial⟩ trivial trivial trivial (inl:=[]) trivial (ann:=.no) Tryz.func225 (fun _ _=>by kernel_rfl) rfl fun v vals x z ha hz=>(Znw x.1 x.2).trans (Z3x hz)
end Go.Eng
set_option maxRecDepth 100000
set_option maxHeartbeats 4000000
namespace Go.Eng
open Go.Proofs Go.RowKit
def Zbg:FuncId×Con:=(218,⟨[.leaf 3,.leaf 3],[.leaf 3,.int .i64],fun p=>ZNe p.1 p.2⟩)
theorem qdiv_i (x:Rat) (y:Rat):Zk ⟨Tryz.prog,[(38,0),(40,2),(42,3)],[Z7d,Zic,ZUc,Z5f,ZAi,Zhd],[],[],[],[],[]⟩ [] Tryz.f218 (.two .no (.two .no (.two (.cut ⟨⟨[],[],[]⟩,[(.norm,⟨[2,3,4],[],[.s 6 (.box 40 (.dat (.leaf 2)))]⟩)]⟩ .no) .no))) [.leaf 3,.leaf 3] [.leaf 3,.int .i64] (x,y)=ZGn x y:=by kernel_rfl
theorem ZQp:Zj Tryz.prog Zbg.1 Zbg.2:=Zm (C:=⟨Tryz.prog,[(38,0),(40,2),(42,3)],[Z7d,Zic,ZUc,Z5f,ZAi,Zhd],[],[],[],[],[]⟩) ⟨Zyk,Zyi,ZOi,Zzq,ZLr,Zgj,trivial⟩ trivial trivial trivial (inl:=[]) trivial (ann:=.two .no (.two .no (.two (.cut ⟨⟨[],[],[]⟩,[(.norm,⟨[2,3,4],[],[.s 6 (.box 40 (.dat (.leaf 2)))]⟩)]⟩ .no) .no))) Tryz.func218 (fun _ _=>by kernel_rfl) rfl fun v vals x z ha hz=>(qdiv_i x.1 x.2).trans (ZNw hz)
end Go.Eng
set_option maxRecDepth 100000
set_option maxHeartbeats 4000000
namespace Go.Eng
open Go.Proofs Go.RowKit
def Z3m:FuncId×Con:=(228,⟨[.leaf 2,.leaf 2],[.leaf 2],fun p=>Z6i p.1 p.2⟩)
theorem ZcA (x:Int) (y:Int):Zk ⟨Tryz.prog,[(38,0),(40,2),(42,3)],[Zic,Zhd],[],[],[],[],[]⟩ [] Tryz.f228 .no [.leaf 2,.leaf 2] [.leaf 2] (x,y)=Ziq x y:=by kernel_rfl
theorem Zqv:Zj Tryz.prog Z3m.1 Z3m.2:=Zm (C:=⟨Tryz.prog,[(38,0),(40,2),(42,3)],[Zic,Zhd],[],[],[],[],[]⟩) ⟨Zyi,Zgj,trivial⟩ trivial trivial trivial (inl:=[]) trivial (ann:=.no) Tryz.func228 (fun _ _=>by kernel_rfl) rfl fun v vals x z ha hz=>(ZcA x.1 x.2).trans (Zcv hz)
end Go.Eng
set_option maxRecDepth 100000
set_option maxHeartbeats 4000000
namespace Go.Eng
open Go.Proofs Go.RowKit
def Z4c:FuncId×Con:=(219,⟨[.leaf 3,.leaf 3],[.leaf 3],fun p=>Zlb p.1 p.2⟩)
theorem qmul_i (x:Rat) (y:Rat):Zk ⟨Tryz.prog,[(38,0),(40,2),(42,3)],[Z7d,Z5f,Zhd,Z3m],[],[],[],[],[]⟩ [] Tryz.f219 .no [.leaf 3,.leaf 3] [.leaf 3] (x,y)=ZKn x y:=by kernel_rfl
theorem Z7i:Zj Tryz.prog Z4c.1 Z4c.2:=Zm (C:=⟨Tryz.prog,[(38,0),(40,2),(42,3)],[Z7d,Z5f,Zhd,Z3m],[],[],[],[],[]⟩) ⟨Zyk,Zzq,Zgj,Zqv,trivial⟩ trivial trivial trivial (inl:=[]) trivial (ann:=.no) Tryz.func219 (fun _ _=>by kernel_rfl) rfl fun v vals x z ha hz=>(qmul_i x.1 x.2).trans (Zmy hz)
end Go.Eng
set_option maxRecDepth 100000
set_option maxHeartbeats 4000000
namespace Go.Eng
open Go.Proofs Go.RowKit
def Zsk:FuncId×Con:=(229,⟨[.leaf 2],[.leaf 2],fun p=>Zlj p⟩)
theorem Zjx (x:Int):Zk ⟨Tryz.prog,[(38,0),(40,2),(42,3)],[Zic],[],[],[],[],[]⟩ [] Tryz.f229 .no [.leaf 2] [.leaf 2] (x)=Zvp x:=by kernel_rfl
theorem ZCx:Zj Tryz.prog Zsk.1 Zsk.2:=Zm (C:=⟨Tryz.prog,[(38,0),(40,2),(42,3)],[Zic],[],[],[],[],[]⟩) ⟨Zyi,trivial⟩ trivial trivial trivial (inl:=[]) trivial (ann:=.no) Tryz.func229 (fun _ _=>by kernel_rfl) rfl fun v vals x z ha hz=>(Zjx x).trans (Zzx hz)
end Go.Eng
set_option maxRecDepth 100000
set_option maxHeartbeats 4000000
namespace Go.Eng
open Go.Proofs Go.RowKit
def Zlc:FuncId×Con:=(221,⟨[.leaf 3],[.leaf 3],fun p=>Zcd p⟩)
theorem qneg_i (x:Rat):Zk ⟨Tryz.prog,[(38,0),(40,2),(42,3)],[Zsk],[],[],[],[],[]⟩ [] Tryz.f221 .no [.leaf 3] [.leaf 3] (x)=Z2o x:=by kernel_rfl
theorem Zdh:Zj Tryz.prog Zlc.1 Zlc.2:=Zm (C:=⟨Tryz.prog,[(38,0),(40,2),(42,3)],[Zsk],[],[],[],[],[]⟩) ⟨ZCx,trivial⟩ trivial trivial trivial (inl:=[]) trivial (ann:=.no) Tryz.func221 (fun _ _=>by kernel_rfl) rfl fun v vals x z ha hz=>(qneg_i x).trans (Z9w hz)
end Go.Eng
set_option maxRecDepth 100000
set_option maxHeartbeats 4000000
namespace Go.Eng
open Go.Proofs Go.RowKit
def Zli:FuncId×Con:=(182,⟨[.leaf 0,.leaf 0],[.int .i64],fun p=>ZKd p.1 p.2⟩)
theorem cmp_i (a:(List Int)) (b:(List Int)):Zk ⟨Tryz.prog,[],[],[],[],[],[],[]⟩ [] Tryz.f182 (.two .no (.two .no (.two (.two .no (.cut ⟨⟨[],[],[]⟩,[(.norm,⟨[],[],[]⟩),(.ret,⟨[],[],[.s 1000 (.dat (.int .i64))]⟩)]⟩ (.two (.cut ⟨⟨[0,1],[],[.s 5 (.dat (.int .i64))]⟩,[(.ret,⟨[],[],[.s 1000 (.dat (.int .i64))]⟩),(.exit 0,⟨[],[],[]⟩)]⟩ .no) .no))) .no))) [.slice (.int .u64),.slice (.int .u64)] [.int .i64] (a,b)=Zij a b:=by kernel_rfl
theorem cmp_k:Zj Tryz.prog Zli.1 Zli.2:=Zkm (C:=⟨Tryz.prog,[],[],[],[],[],[],[]⟩) trivial trivial trivial trivial (inl:=[]) trivial (ann:=.two .no (.two .no (.two (.two .no (.cut ⟨⟨[],[],[]⟩,[(.norm,⟨[],[],[]⟩),(.ret,⟨[],[],[.s 1000 (.dat (.int .i64))]⟩)]⟩ (.two (.cut ⟨⟨[0,1],[],[.s 5 (.dat (.int .i64))]⟩,[(.ret,⟨[],[],[.s 1000 (.dat (.int .i64))]⟩),(.exit 0,⟨[],[],[]⟩)]⟩ .no) .no))) .no))) (ats:=[.slice (.int .u64),.slice (.int .u64)]) (rts:=[.int .i64]) (fun x=>((Zc 18446744073709551616 x.1),(Zc 18446744073709551616 x.2))) (fun z=>z) (fun _ _ _ h=>h) (fun _ _ _ h=>h) Tryz.func182 (fun _ _=>by kernel_rfl) rfl fun v vals x z ha hz=>by obtain ⟨c0,w0,e0,p0,c1,e1,p1⟩:=ha;exact (cmp_i (Zc 18446744073709551616 x.1) (Zc 18446744073709551616 x.2)).trans ((Zbs (Z3k p0) (Z3k p1)).trans hz)
end Go.Eng
set_option maxRecDepth 100000
set_option maxHeartbeats 4000000
namespace Go.Eng
open Go.Proofs Go.RowKit
def ZHl:FuncId×Con:=(230,⟨[.leaf 0,.leaf 0],[.leaf 0],fun p=>Zvj p.1 p.2⟩)
theorem plus_i (a:Nat) (b:Nat):Zk ⟨Tryz.prog,[(38,0)],[Zki],[],[],[],[],[]⟩ [] Tryz.f230 (.two .no (.two (.two .no (.cut ⟨⟨[],[],[]⟩,[(.norm,⟨[],[],[.s 0 (.dat (.leaf 0)),.s 1 (.dat (.leaf 0))]⟩)]⟩ .no)) (.two .no (.two .no (.two (.two .no (.cut ⟨⟨[],[],[]⟩,[(.norm,⟨[],[],[.s 5 (.own 176 (.int .u64)),.s 6 (.dat (.int .u64))]⟩)]⟩ (.two (.cut ⟨⟨[1,23,24],[],[.s 5 (.own 176 (.int .u64)),.s 6 (.dat (.int .u64)),.s 25 (.dat (.int .i64))]⟩,[(.exit 0,⟨[],[],[.s 5 (.own 176 (.int .u64)),.s 6 (.dat (.int .u64))]⟩)]⟩ (.two (.two .no (.two .no (.two (.two (.two .no (.two .no (.two (.two .no (.cut ⟨⟨[],[],[]⟩,[(.norm,⟨[1,5,6,7,8,23,24,25],[],[.s 9 (.dat (.int .u64))]⟩)]⟩ .no)) .no))) .no) .no))) .no)) .no))) (.two (.two .no (.cut ⟨⟨[],[],[]⟩,[(.norm,⟨[],[],[.s 5 (.own 176 (.int .u64))]⟩)]⟩ .no)) .no)))))) [.leaf 0,.leaf 0] [.leaf 0] (a,b)=Z6k a b:=by kernel_rfl
theorem plus_k:Zj Tryz.prog ZHl.1 ZHl.2:=Zm (C:=⟨Tryz.prog,[(38,0)],[Zki],[],[],[],[],[]⟩) ⟨ZQt,trivial⟩ trivial trivial trivial (inl:=[]) trivial (ann:=.two .no (.two (.two .no (.cut ⟨⟨[],[],[]⟩,[(.norm,⟨[],[],[.s 0 (.dat (.leaf 0)),.s 1 (.dat (.leaf 0))]⟩)]⟩ .no)) (.two .no (.two .no (.two (.two .no (.cut ⟨⟨[],[],[]⟩,[(.norm,⟨[],[],[.s 5 (.own 176 (.int .u64)),.s 6 (.dat (.int .u64))]⟩)]⟩ (.two (.cut ⟨⟨[1,23,24],[],[.s 5 (.own 176 (.int .u64)),.s 6 (.dat (.int .u64)),.s 25 (.dat (.int .i64))]⟩,[(.exit 0,⟨[],[],[.s 5 (.own 176 (.int .u64)),.s 6 (.dat (.int .u64))]⟩)]⟩ (.two (.two .no (.two .no (.two (.two (.two .no (.two .no (.two (.two .no (.cut ⟨⟨[],[],[]⟩,[(.norm,⟨[1,5,6,7,8,23,24,25],[],[.s 9 (.dat (.int .u64))]⟩)]⟩ .no)) .no))) .no) .no))) .no)) .no))) (.two (.two .no (.cut ⟨⟨[],[],[]⟩,[(.norm,⟨[],[],[.s 5 (.own 176 (.int .u64))]⟩)]⟩ .no)) .no)))))) Tryz.func230 (fun _ _=>by kernel_rfl) rfl fun v vals x z ha hz=>(plus_i x.1 x.2).trans (Zdv hz)
end Go.Eng
set_option maxRecDepth 100000
set_option maxHeartbeats 4000000
namespace Go.Eng
open Go.Proofs Go.RowKit
def Zjk:FuncId×Con:=(198,⟨[.int .u64,.int .u64,.int .u64],[.int .u64,.int .u64],fun p=>Zpd p.1 p.2.1 p.2.2⟩)
theorem sub64_k:Zj Tryz.prog Zjk.1 Zjk.2:=fun w v vals x z _ ha hz=>by
 obtain ⟨c0,w0,e0,p0,c1,w1,e1,p1,c2,e2,p2⟩:=ha
 subst e0 e1 e2
 obtain ⟨rfl,h0⟩:=p0
 obtain ⟨rfl,h1⟩:=p1
 obtain ⟨rfl,h2⟩:=p2
 have p0:(Zd .u64).rel v [.int .u64 x.1] x.1:=⟨rfl,h0⟩
 have p1:(Zd .u64).rel v [.int .u64 x.2.1] x.2.1:=⟨rfl,h1⟩
 exact .inr ⟨.tuple #[.int .u64 z.1,.int .u64 z.2],fun w=>Z8r (show ZKf Tryz.prog 198 Zkn from ⟨_,Tryz.func198,by kernel_rfl,by kernel_rfl,by kernel_rfl,by kernel_rfl⟩) p0.2 p1.2 hz w,_,rfl,_,_,rfl,⟨rfl,ZOt hz⟩,_,rfl,⟨rfl,ZZt hz⟩⟩
end Go.Eng
set_option maxRecDepth 100000
set_option maxHeartbeats 4000000
namespace Go.Eng
open Go.Proofs Go.RowKit
def Z5k:FuncId×Con:=(231,⟨[.leaf 0,.leaf 0],[.leaf 0],fun p=>Zzi p.1 p.2⟩)
theorem minus_i (a:Nat) (b:Nat):Zk ⟨Tryz.prog,[(38,0)],[ZUf,Zjk],[],[],[],[],[]⟩ [] Tryz.f231 (.two .no (.two .no (.two .no (.two (.two .no (.cut ⟨⟨[],[],[]⟩,[(.norm,⟨[],[],[.s 5 (.own 176 (.int .u64))]⟩)]⟩ (.two (.cut ⟨⟨[1,13,14],[],[.s 5 (.own 176 (.int .u64)),.s 6 (.dat (.int .u64)),.s 15 (.dat (.int .i64))]⟩,[(.exit 0,⟨[],[],[.s 5 (.own 176 (.int .u64))]⟩)]⟩ (.two (.two .no (.two .no (.two (.two (.two .no (.two .no (.two (.two .no (.cut ⟨⟨[],[],[]⟩,[(.norm,⟨[1,5,6,7,8,13,14,15],[],[.s 9 (.dat (.int .u64))]⟩)]⟩ .no)) .no))) .no) .no))) .no)) .no))) .no)))) [.leaf 0,.leaf 0] [.leaf 0] (a,b)=ZOl a b:=by kernel_rfl
theorem minus_k:Zj Tryz.prog Z5k.1 Z5k.2:=Zm (C:=⟨Tryz.prog,[(38,0)],[ZUf,Zjk],[],[],[],[],[]⟩) ⟨cut_k,sub64_k,trivial⟩ trivial trivial trivial (inl:=[]) trivial (ann:=.two .no (.two .no (.two .no (.two (.two .no (.cut ⟨⟨[],[],[]⟩,[(.norm,⟨[],[],[.s 5 (.own 176 (.int .u64))]⟩)]⟩ (.two (.cut ⟨⟨[1,13,14],[],[.s 5 (.own 176 (.int .u64)),.s 6 (.dat (.int .u64)),.s 15 (.dat (.int .i64))]⟩,[(.exit 0,⟨[],[],[.s 5 (.own 176 (.int .u64))]⟩)]⟩ (.two (.two .no (.two .no (.two (.two (.two .no (.two .no (.two (.two .no (.cut ⟨⟨[],[],[]⟩,[(.norm,⟨[1,5,6,7,8,13,14,15],[],[.s 9 (.dat (.int .u64))]⟩)]⟩ .no)) .no))) .no) .no))) .no)) .no))) .no)))) Tryz.func231 (fun _ _=>by kernel_rfl) rfl fun v vals x z ha hz=>(minus_i x.1 x.2).trans (Zuv hz)
end Go.Eng
set_option maxRecDepth 100000
set_option maxHeartbeats 4000000
namespace Go.Eng
open Go.Proofs Go.RowKit
def ZAm:FuncId×Con:=(226,⟨[.leaf 2,.leaf 2],[.leaf 2],fun p=>ZKi p.1 p.2⟩)
theorem iplus_i (x:Int) (y:Int):Zk ⟨Tryz.prog,[(38,0),(40,2),(42,3)],[Zic,Zli,ZHl,Z5k],[],[],[],[],[]⟩ [] Tryz.f226 .no [.leaf 2,.leaf 2] [.leaf 2] (x,y)=Zvo x y:=by kernel_rfl
theorem iplus_k:Zj Tryz.prog ZAm.1 ZAm.2:=Zm (C:=⟨Tryz.prog,[(38,0),(40,2),(42,3)],[Zic,Zli,ZHl,Z5k],[],[],[],[],[]⟩) ⟨Zyi,cmp_k,plus_k,minus_k,trivial⟩ trivial trivial trivial (inl:=[]) trivial (ann:=.no) Tryz.func226 (fun _ _=>by kernel_rfl) rfl fun v vals x z ha hz=>(iplus_i x.1 x.2).trans (Zhx hz)
end Go.Eng
set_option maxRecDepth 100000
set_option maxHeartbeats 4000000
namespace Go.Eng
open Go.Proofs Go.RowKit
def Z6d:FuncId×Con:=(215,⟨[.leaf 3,.leaf 3],[.leaf 3],fun p=>Zdg p.1 p.2⟩)
theorem qadd_i (x:Rat) (y:Rat):Zk ⟨Tryz.prog,[(38,0),(40,2),(42,3)],[Z7d,Z5f,ZAi,ZAm,Zhd],[],[],[],[],[]⟩ [] Tryz.f215 .no [.leaf 3,.leaf 3] [.leaf 3] (x,y)=ZPo x y:=by kernel_rfl
theorem Zpn:Zj Tryz.prog Z6d.1 Z6d.2:=Zm (C:=⟨Tryz.prog,[(38,0),(40,2),(42,3)],[Z7d,Z5f,ZAi,ZAm,Zhd],[],[],[],[],[]⟩) ⟨Zyk,Zzq,ZLr,iplus_k,Zgj,trivial⟩ trivial trivial trivial (inl:=[]) trivial (ann:=.no) Tryz.func215 (fun _ _=>by kernel_rfl) rfl fun v vals x z ha hz=>(qadd_i x.1 x.2).trans (Z3u hz)
end Go.Eng
set_option maxRecDepth 100000
set_option maxHeartbeats 4000000
namespace Go.Eng
open Go.Proofs Go.RowKit
def Zoe:FuncId×Con:=(224,⟨[.leaf 3,.leaf 3],[.leaf 3],fun p=>Zdd p.1 p.2⟩)
theorem qsub_i (x:Rat) (y:Rat):Zk ⟨Tryz.prog,[(38,0),(40,2),(42,3)],[Z6d,Zlc],[],[],[],[],[]⟩ [] Tryz.f224 .no [.leaf 3,.leaf 3] [.leaf 3] (x,y)=Zuo x y:=by kernel_rfl
theorem ZGm:Zj Tryz.prog Zoe.1 Zoe.2:=Zm (C:=⟨Tryz.prog,[(38,0),(40,2),(42,3)],[Z6d,Zlc],[],[],[],[],[]⟩) ⟨Zpn,Zdh,trivial⟩ trivial trivial trivial (inl:=[]) trivial (ann:=.no) Tryz.func224 (fun _ _=>by kernel_rfl) rfl fun v vals x z ha hz=>(qsub_i x.1 x.2).trans (ZBy hz)
end Go.Eng
set_option maxRecDepth 100000
set_option maxHeartbeats 4000000
namespace Go.Eng
open Go.Proofs Go.RowKit
def Z3d:FuncId×Con:=(58,⟨[.slice (.slice (.leaf 3))],[.slice (.slice (.leaf 3)),.slice (.int .i64),.leaf 3],fun p=>Z9c p⟩)
theorem Z2w (m : List (List Rat)) : Zk ⟨Tryz.prog, [(38, 0), (40, 2), (42, 3), (47, 1), (49, 4)], [ZCb, ZUc, Zbg, Z4c, Zlc, Zoe], [8], [Z3c], [], [((42, "Div"), 218), ((42, "Mul"), 219), ((42, "Neg"), 221), ((42, "Sub"), 224), ((42, "Zero"), 172)], []⟩ [(44, Tryz.f44, .cut ⟨⟨[], [], []⟩, [(.ret, ⟨[], [], [.s 1000 (.dat (.int .i64))]⟩)]⟩ .no), (101, Tryz.f101, .two .no (.two .no (.two (.two .no (.two (.cut ⟨⟨[3, 9, 10], [], [.s 11 (.dat (.int .i64)), .l (.sl 3) (.mat 30 42 (.leaf 3))]⟩, [(.exit 0, ⟨[3], [], [.l (.sl 3) (.mat 30 42 (.leaf 3))]⟩)]⟩ .no) .no)) .no)))] Tryz.f58 (.two .no (.two .no (.two .no (.two .no (.two (.two .no (.two (.cut ⟨⟨[0, 4, 6, 19], [], [.s 5 (.own 3 (.int .i64)), .s 20 (.dat (.int .i64)), .l (.sl 0) (.mat 30 42 (.leaf 3)), .l (.sl 6) (.box 42 (.dat (.leaf 3)))]⟩, [(.exit 0, ⟨[0, 4, 6], [], [.s 5 (.own 3 (.int .i64)), .l (.sl 0) (.mat 30 42 (.leaf 3)), .l (.sl 6) (.box 42 (.dat (.leaf 3)))]⟩)]⟩ (.two (.two .no (.two .no (.two (.cut ⟨⟨[], [], []⟩, [(.norm, ⟨[0, 4, 6, 19, 20], [], [.s 5 (.own 3 (.int .i64)), .l (.sl 0) (.mat 30 42 (.leaf 3)), .l (.sl 6) (.box 42 (.dat (.leaf 3)))]⟩)]⟩ (.two (.two .no (.two .no (.two .no (.two (.two (.cut ⟨⟨[0, 4, 5, 6, 7, 8, 19, 20], [], [.s 9 (.dat (.int .i64))]⟩, [(.exit 2, ⟨[0, 4, 5, 6, 7, 8, 19, 20], [], [.s 9 (.dat (.int .i64))]⟩)]⟩ (.two (.two (.two (.cut ⟨⟨[], [], []⟩, [(.norm, ⟨[0, 4, 5, 6, 7, 8, 9, 19, 20], [], [.s 40 (.dat .bool)]⟩)]⟩ .no) .no) .no) .no)) .no) (.two .no (.two (.two .no (.cut ⟨⟨[], [], []⟩, [(.norm, ⟨[0, 4, 5, 6, 7, 8, 19, 20], [], [.l (.sl 0) (.mat 30 42 (.leaf 3)), .l (.sl 6) (.box 42 (.dat (.leaf 3)))]⟩)]⟩ .no)) (.two .no (.two .no (.two (.two .no (.two (.cut ⟨⟨[0, 4, 5, 6, 7, 8, 10, 19, 20, 83], [], [.s 84 (.dat (.int .i64)), .l (.sl 0) (.mat 30 42 (.leaf 3))]⟩, [(.exit 4, ⟨[0, 4, 5, 6, 7, 8, 19, 20], [], [.l (.sl 0) (.mat 30 42 (.leaf 3))]⟩)]⟩ .no) .no)) (.two (.two .no (.two (.cut ⟨⟨[0, 4, 5, 6, 7, 8, 19, 20, 108], [], [.s 109 (.dat (.int .i64)), .l (.sl 0) (.mat 30 42 (.leaf 3))]⟩, [(.exit 6, ⟨[0, 4, 5, 6, 7, 19, 20], [], [.l (.sl 0) (.mat 30 42 (.leaf 3))]⟩)]⟩ (.two (.two .no (.two .no (.two (.cut ⟨⟨[], [], []⟩, [(.norm, ⟨[0, 4, 5, 6, 7, 8, 19, 20, 108, 109], [], [.l (.sl 0) (.mat 30 42 (.leaf 3))]⟩)]⟩ (.two (.two .no (.two .no (.two (.two (.cut ⟨⟨[], [], []⟩, [(.norm, ⟨[0, 4, 5, 6, 7, 8, 12, 13, 19, 20, 108, 109], [], [.s 126 (.dat .bool)]⟩)]⟩ .no) .no) (.two .no (.two (.cut ⟨⟨[0, 4, 5, 6, 7, 8, 12, 13, 19, 20, 108, 109, 131], [], [.s 132 (.dat (.int .i64)), .l (.sl 0) (.mat 30 42 (.leaf 3))]⟩, [(.exit 8, ⟨[0, 4, 5, 6, 7, 8, 19, 20, 108, 109], [], [.l (.sl 0) (.mat 30 42 (.leaf 3))]⟩)]⟩ .no) .no))))) .no)) .no))) .no)) .no)) .no)))))))))) .no)) .no))) .no)) .no)) .no))))) [.slice (.slice (.leaf 3))] [.slice (.slice (.leaf 3)), .slice (.int .i64), .leaf 3] (m) = Z9c m := by kernel_rfl
theorem Zvk : Zj Tryz.prog Z3d.1 Z3d.2 := Zm (C := ⟨Tryz.prog, [(38, 0), (40, 2), (42, 3), (47, 1), (49, 4)], [ZCb, ZUc, Zbg, Z4c, Zlc, Zoe], [8], [Z3c], [], [((42, "Div"), 218), ((42, "Mul"), 219), ((42, "Neg"), 221), ((42, "Sub"), 224), ((42, "Zero"), 172)], []⟩) ⟨Zeg, ZOi, ZQp, Z7i, Zdh, ZGm, trivial⟩ ⟨Z8i, trivial⟩ trivial ⟨ZEp, ZSi, Zck, Zmp, Zll, trivial⟩ (inl := [(44, Tryz.f44, .cut ⟨⟨[], [], []⟩, [(.ret, ⟨[], [], [.s 1000 (.dat (.int .i64))]⟩)]⟩ .no), (101, Tryz.f101, .two .no (.two .no (.two (.two .no (.two (.cut ⟨⟨[3, 9, 10], [], [.s 11 (.dat (.int .i64)), .l (.sl 3) (.mat 30 42 (.leaf 3))]⟩, [(.exit 0, ⟨[3], [], [.l (.sl 3) (.mat 30 42 (.leaf 3))]⟩)]⟩ .no) .no)) .no)))]) ⟨⟨Tryz.func44, fun _ _ => by kernel_rfl⟩, ⟨Tryz.func101, fun _ _ => by kernel_rfl⟩, trivial⟩ (ann := (.two .no (.two .no (.two .no (.two .no (.two (.two .no (.two (.cut ⟨⟨[0, 4, 6, 19], [], [.s 5 (.own 3 (.int .i64)), .s 20 (.dat (.int .i64)), .l (.sl 0) (.mat 30 42 (.leaf 3)), .l (.sl 6) (.box 42 (.dat (.leaf 3)))]⟩, [(.exit 0, ⟨[0, 4, 6], [], [.s 5 (.own 3 (.int .i64)), .l (.sl 0) (.mat 30 42 (.leaf 3)), .l (.sl 6) (.box 42 (.dat (.leaf 3)))]⟩)]⟩ (.two (.two .no (.two .no (.two (.cut ⟨⟨[], [], []⟩, [(.norm, ⟨[0, 4, 6, 19, 20], [], [.s 5 (.own 3 (.int .i64)), .l (.sl 0) (.mat 30 42 (.leaf 3)), .l (.sl 6) (.box 42 (.dat (.leaf 3)))]⟩)]⟩ (.two (.two .no (.two .no (.two .no (.two (.two (.cut ⟨⟨[0, 4, 5, 6, 7, 8, 19, 20], [], [.s 9 (.dat (.int .i64))]⟩, [(.exit 2, ⟨[0, 4, 5, 6, 7, 8, 19, 20], [], [.s 9 (.dat (.int .i64))]⟩)]⟩ (.two (.two (.two (.cut ⟨⟨[], [], []⟩, [(.norm, ⟨[0, 4, 5, 6, 7, 8, 9, 19, 20], [], [.s 40 (.dat .bool)]⟩)]⟩ .no) .no) .no) .no)) .no) (.two .no (.two (.two .no (.cut ⟨⟨[], [], []⟩, [(.norm, ⟨[0, 4, 5, 6, 7, 8, 19, 20], [], [.l (.sl 0) (.mat 30 42 (.leaf 3)), .l (.sl 6) (.box 42 (.dat (.leaf 3)))]⟩)]⟩ .no)) (.two .no (.two .no (.two (.two .no (.two (.cut ⟨⟨[0, 4, 5, 6, 7, 8, 10, 19, 20, 83], [], [.s 84 (.dat (.int .i64)), .l (.sl 0) (.mat 30 42 (.leaf 3))]⟩, [(.exit 4, ⟨[0, 4, 5, 6, 7, 8, 19, 20], [], [.l (.sl 0) (.mat 30 42 (.leaf 3))]⟩)]⟩ .no) .no)) (.two (.two .no (.two (.cut ⟨⟨[0, 4, 5, 6, 7, 8, 19, 20, 108], [], [.s 109 (.dat (.int .i64)), .l (.sl 0) (.mat 30 42 (.leaf 3))]⟩, [(.exit 6, ⟨[0, 4, 5, 6, 7, 19, 20], [], [.l (.sl 0) (.mat 30 42 (.leaf 3))]⟩)]⟩ (.two (.two .no (.two .no (.two (.cut ⟨⟨[], [], []⟩, [(.norm, ⟨[0, 4, 5, 6, 7, 8, 19, 20, 108, 109], [], [.l (.sl 0) (.mat 30 42 (.leaf 3))]⟩)]⟩ (.two (.two .no (.two .no (.two (.two (.cut ⟨⟨[], [], []⟩, [(.norm, ⟨[0, 4, 5, 6, 7, 8, 12, 13, 19, 20, 108, 109], [], [.s 126 (.dat .bool)]⟩)]⟩ .no) .no) (.two .no (.two (.cut ⟨⟨[0, 4, 5, 6, 7, 8, 12, 13, 19, 20, 108, 109, 131], [], [.s 132 (.dat (.int .i64)), .l (.sl 0) (.mat 30 42 (.leaf 3))]⟩, [(.exit 8, ⟨[0, 4, 5, 6, 7, 8, 19, 20, 108, 109], [], [.l (.sl 0) (.mat 30 42 (.leaf 3))]⟩)]⟩ .no) .no))))) .no)) .no))) .no)) .no)) .no)))))))))) .no)) .no))) .no)) .no)) .no)))))) Tryz.func58 (fun _ _ => by kernel_rfl) rfl (fun v vals x z ha hz => (Z2w x).trans hz)
end Go.Eng
set_option maxRecDepth 100000
set_option maxHeartbeats 4000000
namespace Go.Eng
open Go.Proofs Go.RowKit
def ZNh:FuncId×Con:=(34,⟨[.slice (.slice (.leaf 3))],[.slice (.slice (.leaf 3)),.slice (.int .i64),.int .i64],fun p=>Z4i p⟩)
theorem ZKy (m:List (List Rat)):Zk ⟨Tryz.prog,[(38,0),(40,2),(42,3),(47,1),(49,4)],[Zye,Z3d],[],[],[],[],[]⟩ [] Tryz.f34 .no [.slice (.slice (.leaf 3))] [.slice (.slice (.leaf 3)),.slice (.int .i64),.int .i64] (m)=Z4i m:=by kernel_rfl
theorem Zxr:Zj Tryz.prog ZNh.1 ZNh.2:=Zm (C:=⟨Tryz.prog,[(38,0),(40,2),(42,3),(47,1),(49,4)],[Zye,Z3d],[],[],[],[],[]⟩) ⟨Zwl,Zvk,trivial⟩ trivial trivial trivial (inl:=[]) trivial (ann:=.no) Tryz.func34 (fun _ _=>by kernel_rfl) rfl (fun v vals x z ha hz=>(ZKy x).trans hz)
end Go.Eng
set_option maxRecDepth 100000
set_option maxHeartbeats 4000000
namespace Go.Eng
open Go.Proofs Go.RowKit
def Zpm:FuncId×Con:=(112,⟨[.slice (.int .i64),.int .i64],[.int .i64],fun p=>Zvq p.1 p.2⟩)
theorem ZJx (l:(List Int)) (v:Int):Zk ⟨Tryz.prog,[(38,0),(40,2),(42,3),(47,1),(49,4)],[],[],[],[],[],[]⟩ [] Tryz.f112 (.two .no (.two (.two .no (.cut ⟨⟨[],[],[]⟩,[(.norm,⟨[],[],[]⟩),(.ret,⟨[],[],[.s 1000 (.dat (.int .i64))]⟩)]⟩ (.two (.cut ⟨⟨[0,1,7],[],[.s 8 (.dat (.int .i64))]⟩,[(.ret,⟨[],[],[.s 1000 (.dat (.int .i64))]⟩),(.exit 0,⟨[],[],[]⟩)]⟩ .no) .no))) .no)) [.slice (.int .i64),.int .i64] [.int .i64] (l,v)=Zvq l v:=by kernel_rfl
theorem Zkv:Zj Tryz.prog Zpm.1 Zpm.2:=Zm (C:=⟨Tryz.prog,[(38,0),(40,2),(42,3),(47,1),(49,4)],[],[],[],[],[],[]⟩) trivial trivial trivial trivial (inl:=[]) trivial (ann:=.two .no (.two (.two .no (.cut ⟨⟨[],[],[]⟩,[(.norm,⟨[],[],[]⟩),(.ret,⟨[],[],[.s 1000 (.dat (.int .i64))]⟩)]⟩ (.two (.cut ⟨⟨[0,1,7],[],[.s 8 (.dat (.int .i64))]⟩,[(.ret,⟨[],[],[.s 1000 (.dat (.int .i64))]⟩),(.exit 0,⟨[],[],[]⟩)]⟩ .no) .no))) .no)) Tryz.func112 (fun _ _=>by kernel_rfl) rfl fun v vals x z ha hz=>(ZJx x.1 x.2).trans (hz)
end Go.Eng
set_option maxRecDepth 100000
set_option maxHeartbeats 4000000
namespace Go.Eng
open Go.Proofs Go.RowKit
def Znm:FuncId×Con:=(80,⟨[.slice (.int .i64),.int .i64],[.bool],fun p=>Zjp p.1 p.2⟩)
theorem Z8x (l:(List Int)) (v:Int):Zk ⟨Tryz.prog,[(38,0),(40,2),(42,3),(47,1),(49,4)],[Zpm],[],[],[],[],[]⟩ [] Tryz.f80 .no [.slice (.int .i64),.int .i64] [.bool] (l,v)=Zjp l v:=by kernel_rfl
theorem ZEy:Zj Tryz.prog Znm.1 Znm.2:=Zm (C:=⟨Tryz.prog,[(38,0),(40,2),(42,3),(47,1),(49,4)],[Zpm],[],[],[],[],[]⟩) ⟨Zkv,trivial⟩ trivial trivial trivial (inl:=[]) trivial (ann:=.no) Tryz.func80 (fun _ _=>by kernel_rfl) rfl fun v vals x z ha hz=>(Z8x x.1 x.2).trans (hz)
def Zhn (x:Int) (y:Int):Option (Int×Int) :=
 bnd (ZMc x y) fun a =>
 some ((a.1,a.2))
end Go.Eng
namespace Go.Eng
open Go.Proofs Go.RowKit
theorem bmul_w {c:World} {a:Zb} (hv:VIn a c) {d:List Value} {x:Int} (i:Rep.rel (Zd .u64) a d x) {e:List Value} {y:Int} (j:Rep.rel (Zd .u64) a e y) {z:Int×Int} (H:Zhn x y=some z):Ret Tryz.prog 140 #[(Zd .u64).val d,(Zd .u64).val e] c a (fun y v'=>∃ g b,y = .tuple #[(Zd .u64).val g,(Zd .u64).val b]∧(Zd .u64).rel v' g z.1∧(Zd .u64).rel v' b z.2):=by
 obtain ⟨rfl,b⟩:=i;obtain ⟨rfl,k⟩:=j;refine Zdc (K:=30) (args:=[.int .u64 x,.int .u64 y]) hv Tryz.func140 rfl rfl zl fun f S=>?_;unfold Zhn at H;refine sr (mw S rfl fun f S=>mw S rfl fun f S=>oe (Zn fun _ l=>ZR S rfl rfl (wp_skip (Zh (l _ _ (Zn fun _ m=>bO H fun h n H=>Zv (mv S rfl fun f S=>mv S rfl fun f S=>opc S rfl (Zfa S [.int .u64 x,.int .u64 y] Zmo rfl rfl) (Zwo S.vin (show Rep.rel (Zd .u64) _ [.int .u64 x] x from (ZE b)) (show Rep.rel (Zd .u64) _ [.int .u64 y] y from (ZE k)) n) ?_)))))));rintro _ s f w t ⟨u,v,rfl,o,p⟩ S;obtain ⟨rfl,q⟩:=o;obtain ⟨rfl,r⟩:=p;refine mv S rfl fun f S=>ov S rfl (ZNa S rfl rfl) fun f S=>ov S rfl (ZNa S rfl rfl) fun f S=>mw S rfl fun f S=>mw S rfl fun f S=>Zs (Zh (m _ _ (sr (mv S rfl fun f S=>mv S rfl fun f S=>mw S rfl fun f S=>mw S rfl fun f S=>oe (wp_ret ?_)))));obtain rfl:=Zp H;refine ZOa S (ZSf rfl (ZY S rfl) (ZY S rfl)) ⟨[.int .u64 (h.1)],[.int .u64 (h.2)],rfl,(ZE q),(ZE r)⟩
set_option maxRecDepth 100000
theorem Zgq:Elem Tryz.prog 30 42 (Zzb).n 56 (Value.agg #[Value.bool false,Value.slice none 0 0,Value.slice none 0 0]):=⟨Tryz.underlying30,by kernel_rfl,rfl,by decide⟩
theorem Z5m:Znd Tryz.prog 30 42 (Zzb).n:=⟨fun _=>by kernel_rfl,fun _=>by kernel_rfl⟩
theorem ZHx:Tryz.prog.follows .mixedOrders=true:=by kernel_rfl
theorem Z0x:Z8 Tryz.prog 140:=fun _ _=>by kernel_rfl
theorem Z6r:Zqj Tryz.prog 3 205 .i64 .u64:=fun _ _=>by kernel_rfl
theorem ZWv:Zqj Tryz.prog 205 3 .u64 .i64:=fun _ _=>by kernel_rfl
def ZJf:FuncId×ConO:=(108,⟨[.slice (.leaf 3),.int .i64],42,.leaf 3,fun p=>ZBe 56 p.1 p.2⟩)
theorem Zqq:ZTg Tryz.prog ZJf.1 ZJf.2:=fun w v vals x z hv ha hz=>by
 obtain ⟨cs,vs,rfl,p0,c1,rfl,rfl,hin⟩:=ha
 obtain ⟨x1,k0⟩:=x
 have hz:ZBe 56 (show List Rat from x1) k0=some z:=hz
 obtain ⟨y,hx1,hzr,hmk⟩:=Zny hz
 have hx1:x1=[y]:=hx1
 subst hx1 hzr
 obtain ⟨h0,_,hb1,hb2⟩:=Z1a hmk
 obtain ⟨k,rfl⟩:=Int.eq_ofNat_of_zero_le h0
 obtain ⟨q,c,e,hc1,hc2,hne⟩:=(show (Zw Zzb).rel v cs [y] from p0)
 subst e
 rcases hne with hne | ⟨b,off,cc,TT,fr,rfl,hvb,hrel⟩
 ·cases hne
 have hlen1:([y]:List Rat).length=1:=rfl
 rw [hlen1] at hrel
 obtain ⟨c1,c2,e12,hrc,e2⟩:=hrel
 have e2:c2=[]:=e2
 subst e2
 rw [List.append_nil,Nat.one_mul] at e12
 have hl1:=Rep.len _ hrc
 have hAt:At v b off c1:=⟨cc,TT,fr,hvb,by rw [hl1];exact e12⟩
 refine ⟨fun _ _=>by kernel_rfl,?_⟩
 have hk:((k:Int).toNat)=k:=Int.toNat_natCast k
 rw [hk]
 refine Zul (K:=48) (args:=[.slice (some ⟨b,off,none⟩) 1 c,.int .i64 (k:Int)]) hv Tryz.func108 rfl rfl zl fun fa hS=>?_
 refine sr ?_
 refine mw hS rfl fun fa hS=>?_
 refine oe ?_
 refine wp_seq_k fun N1 hN1=>?_
 refine sr ?_
 refine mv hS rfl fun fa hS=>?_
 refine ov hS rfl (Zg hS rfl rfl Zxc) fun fa hS=>?_
 refine oe ?_
 refine ZR hS rfl (decide_eq_false (by omega)) ?_
 refine wp_skip ?_
 refine Zh (hN1 _ _ ?_)
 refine sr ?_
 refine mv hS rfl fun fa hS=>?_
 refine ov hS rfl (ZMe hS rfl rfl Z5m) fun fa hS=>?_
 refine ov hS rfl (ZVd hS rfl (Z6r _)) fun fa hS=>?_
 refine mv hS rfl fun fa hS=>?_
 refine ov hS rfl (ZVd hS rfl (Z6r _)) fun fa hS=>?_
 have w1:IntKind.u64.wrap ((1:Nat):Int)=1:=by decide
 have w2:IntKind.u64.wrap (k:Int)=k:=Z2e (Zzd.2 (by omega))
 rw [w1,w2] at hS
 have hmul:Zhn 1 (k:Int)=some (0,(k:Int)):=by
  unfold Zhn ZMc;rw [if_pos (by omega),Za];simp only;congr 2 <;> omega
 refine ZAs hS wn rfl zl (Zfa hS [.int .u64 1,.int .u64 (k:Int)] Z0x rfl rfl) (bmul_w hS.vin (show Rep.rel (Zd .u64) _ [.int .u64 1] 1 from ZE (by decide)) (show Rep.rel (Zd .u64) _ [.int .u64 (k:Int)] (k:Int) from ZE (Zzd.2 (by omega))) hmul) ?_;rintro _ v1 fa wo hle ⟨r0,r1,rfl,⟨rfl,_⟩,⟨rfl,_⟩⟩ hS;refine mv hS rfl fun fa hS=>?_;refine ov hS rfl (ZNa hS rfl rfl) fun fa hS=>?_;refine ov hS rfl (ZNa hS rfl rfl) fun fa hS=>?_;refine mw hS rfl fun fa hS=>?_;refine mw hS rfl fun fa hS=>?_;refine oe ?_;refine wp_seq_k fun N2 hN2=>?_;refine sr ?_;refine mv hS rfl fun fa hS=>?_;refine ov hS rfl (Zg hS rfl rfl ZCd) fun fa hS=>?_;have g1:decide ((0:Int)<0)=false:=rfl;have hS:St _ _ _ ((22,Value.bool false) :: _) _ _ _ _:=hS;refine mv hS rfl fun fa hS=>?_;refine op_v hS (Zyg hS rfl rfl rfl zl) rfl zl (ZA hS rfl) fun fa hS=>?_;refine op_v hS (Zyg hS rfl rfl rfl zl) rfl zl (Zg hS rfl rfl ZCd) fun fa hS=>?_;refine ov hS rfl (Z1b (b:=false) hS rfl rfl) fun fa hS=>?_;refine oe ?_;refine ZR hS rfl (decide_eq_false (by omega)) ?_;refine wp_skip ?_;refine Zh (hN2 _ _ ?_);refine sr ?_;refine mv hS rfl fun fa hS=>?_;refine ov hS rfl (ZVd hS rfl (ZWv _)) fun fa hS=>?_;have w3:IntKind.i64.wrap (k:Int)=k:=Z2e (Zeb.2 (by omega));rw [w3] at hS;obtain ⟨b2,wo,hrun,hS'⟩:=Zoq Zgq hS (l:=(k:Int)) (c:=(k:Int)) h0 (Int.le_refl _) hb1 hb2
 refine ZYb wn rfl zl (hrun rfl rfl) hS' fun fa hS=>?_;refine mw hS rfl fun fa hS=>?_;refine oe ?_;rw [hk] at hS;have hS:=hS.fr' (σ':=[(7,.slice (mkA (some b2)) k k),(0,.slice (some ⟨b,off,none⟩) 1 c)]) rfl;have src1:∀ {σ:List (Nat×Value)} {ℓ:List Loc} {v':Zb} {a:Act} {w':World},St 48 w v σ ℓ v' a w'→∀ j u,c1[j]? = some u→w'.cell? ((⟨b,off,none⟩:Addr).add j)=some u:=fun hS j u hu=>by
  have:=(hS.view (At.mono hS.vst.le hAt)).cell hu
  rwa [ZQa]
 have hpl1:c1.all plain=true:=Rep.flat _ hrc;obtain ⟨zc,hzc⟩:∃ zc:List Value,zc=(Value.agg #[Value.bool false,Value.slice none 0 0,Value.slice none 0 0]:Value).cells.toList:=⟨_,rfl⟩;have hzl:zc.length=(Zzb).n:=by rw [hzc];rfl
 rw [← hzc] at hS
 let Inv:Nat→Act→World→Prop:=fun j a w'=>∃ v',j≤k∧(0<k→0<j)∧St 48 w v [(8,.int .i64 (j:Int)),(7,.slice (mkA (some b2)) k k)] [.own (some b2) 42 (Zzb).n k k ((List.replicate j c1).flatten++(List.replicate (k-j) zc).flatten)] v' a w'
 have rl:=fun n=>ZNm hl1 n;have rpl:∀ n:Nat,((List.replicate n c1).flatten).all plain=true:=fun n=>Zpy hpl1 n;have step:=fun j m (hjm:j+m≤k)=>rp_step (k:=k) hl1 hzl hjm;refine sr ?_;refine mv hS rfl fun fa hS=>?_;refine mv hS rfl fun fa hS=>?_;have hS1:St 48 w v _ [.own (some b2) 42 (Zzb).n k k ((List.replicate 0 c1).flatten++(List.replicate (k-0) zc).flatten)] v1 fa wo:=hS;obtain ⟨wo2,hr,hS'⟩:=ZTs (t:=30) (sT:=30) Zgq hS1 (i:=0) rfl (p:=0) (k:=min 1 k) (c:=(List.replicate (min 1 k) c1).flatten) (rl _) (by omega) (rpl _) (ad:=⟨b,off,none⟩) (sLen:=1) (sCap:=c) (dLen:=k) (dCap:=k) (fun j u hu=>by
  rcases Nat.lt_or_ge 0 k with hk0 | hk0
  ·rw [show min 1 k=1 by omega] at hu;simp only [List.replicate_one,List.flatten_cons,List.flatten_nil,List.append_nil] at hu;exact src1 hS1 j u hu
  ·rw [show min 1 k=0 by omega] at hu;simp at hu) rfl
 have hst:=step 0 (min 1 k) (by omega);simp only [List.set_cons_zero] at hS';rw [hst] at hS';simp only [Nat.zero_add] at hS';rw [Nat.zero_mul] at hr;refine ZYb wn rfl zl (Zys hS1 rfl rfl (hr _)) hS' fun fa hS=>?_;refine mw hS rfl fun fa hS=>?_;refine oe ?_;have hS:=hS.fr' (σ':=[(8,.int .i64 ((min 1 k:Nat):Int)),(7,.slice (mkA (some b2)) k k)]) rfl;refine wp_seq_k fun N3 hN3=>?_;refine wp_block ?_;refine wp_loop_fuel (fun m a w'=>∃ j,k-j<m∧Inv j a w') (k+1) ⟨min 1 k,by omega,v1,by omega,by omega,hS⟩ (fun a w' ⟨j,h,_⟩=>by omega) ?_;rintro m fa wo3 ⟨j,hjm,v3,hjk,hj0,hS⟩ N hN;refine wp_seq_k fun N4 hN4=>?_;refine sr ?_;refine mv hS rfl fun fa hS=>?_;refine mv hS rfl fun fa hS=>?_;refine ov hS rfl (ZMe hS rfl rfl Z5m) fun fa hS=>?_;refine ov hS rfl (Zg hS rfl rfl Zxc) fun fa hS=>?_;refine oe ?_;by_cases hlt:j<k
 ·refine ZX hS rfl (decide_eq_true (by omega)) ?_;refine wp_skip ?_;refine Zh (hN4 _ _ ?_);refine wp_block ?_;have hS:=hS.fr' (σ':=[(8,.int .i64 (j:Int)),(7,.slice (mkA (some b2)) k k)]) rfl;refine ZSe (fl:=#[true,true,true,true,true,true,true,false,false,false]) ZHx (by kernel_rfl) hS ?_;intro ops hops hF wo hS;refine rf hops hF 0 rfl (by kernel_rfl) rfl hS (ZA hS rfl) fun fa hS=>?_;refine rf hops hF 1 rfl (by kernel_rfl) rfl hS (ZA hS rfl) fun fa hS=>?_;refine rf hops hF 2 rfl (by kernel_rfl) rfl hS (ZA hS rfl) fun fa hS=>?_;refine rf hops hF 3 rfl (by kernel_rfl) rfl hS (Z9z hS Z5m rfl rfl (by omega) (by omega)) fun fa hS=>?_;refine rf hops hF 4 rfl (by kernel_rfl) rfl hS (ZA hS rfl) fun fa hS=>?_;refine rf hops hF 5 rfl (by kernel_rfl) rfl hS (ZA hS rfl) fun fa hS=>?_;refine rf hops hF 6 rfl (by kernel_rfl) rfl hS (ZgA hS Z5m rfl rfl (by omega) (by omega)) fun fa hS=>?_;rw [Nat.zero_add] at hS;obtain ⟨wo',hr,hS'⟩:=ZTs (t:=30) (sT:=30) Zgq hS (i:=0) rfl (p:=j) (k:=min j (k-j)) (c:=(List.replicate (min j (k-j)) c1).flatten) (rl _) (by omega) (rpl _) (ad:=⟨b2,0,none⟩) (sLen:=j) (sCap:=k) (dLen:=k-j) (dCap:=k-j) (fun i u hu=>by
   have hi:=(List.getElem?_eq_some_iff.1 hu).1;refine Zok hS (j:=0) rfl i u ?_;rw [ZGr (c:=c1) (m:=min j (k-j)) (n:=j) (by omega),List.append_assoc,List.getElem?_append_left hi];exact hu) rfl
  have hst:=step j (min j (k-j)) (by omega);simp only [List.set_cons_zero] at hS';rw [hst] at hS';refine Z7m hops hF 7 (by kernel_rfl) ?_;refine nx_ex' [3,6,1,2,4,5] [0] hops rfl (by kernel_rfl) wn rfl zl (Zys hS rfl rfl (hr _)) hS' fun fa hS=>?_;refine ⟨(py hS rfl rfl (ZA hS rfl) ZPc),?_⟩;refine Z7m hops hF 8 (by kernel_rfl) ?_;have hadd:chk .i64 ((j:Int)+((min j (k-j):Nat):Int))=some ((j+min j (k-j):Nat):Int):=by rw [Zu (by omega) (by omega)];rfl
  refine nv [0,7,3,6,1,2,4,5] [] hops rfl (by kernel_rfl) rfl hS (Zg hS rfl rfl (Z2a hadd)) fun fa hS=>?_;refine ⟨ZPc,?_⟩;refine Z7m hops hF 9 (by kernel_rfl) ?_;refine nv [0,1,2,3,4,5,6,7,8] [] hops rfl (by kernel_rfl) rfl hS (ZNd hS rfl) fun fa hS=>?_;refine ⟨ZPc,?_⟩;refine Zwu hops hF (by kernel_rfl) ?_;refine ZGb ?_;have hj0:=hj0 (by omega);exact Zh (hN _ _ ⟨j+min j (k-j),by omega,v3,by omega,fun _=>by omega,hS.fr' rfl⟩)
 refine ZR hS rfl (decide_eq_false (by omega)) ?_;refine wp_exit ?_;refine Z6 ?_;refine Z6 ?_;refine Zhb ?_;refine Zh (hN3 _ _ ?_);have hjk:j=k:=by omega
 subst hjk;rw [Nat.sub_self,List.replicate_zero,List.flatten_nil,List.append_nil] at hS;refine sr ?_;refine mv hS rfl fun fa hS=>?_;refine mw hS rfl fun fa hS=>?_;refine oe ?_;refine wp_ret ?_;exact Z6o hS (i:=0) rfl (ZZa rfl (ZY hS rfl)) (Z7e (Rep.mono _ hS.vst.le hrc) _) (List.length_replicate (n:=j) (a:=y)).symm
end Go.Eng
set_option maxRecDepth 100000
set_option maxHeartbeats 4000000
namespace Go.Eng
open Go.Proofs Go.RowKit
def Zbn:FuncId×Con:=(35,⟨[.slice (.slice (.leaf 3))],[.slice (.slice (.leaf 3)),.int .i64],fun p=>Zso p⟩)
theorem ZYu (m : List (List Rat)) : Zk ⟨Tryz.prog, [(38, 0), (40, 2), (42, 3), (47, 1), (49, 4)], [Zye, Z1d, Z3d, ZCb, Znm, Zlc], [], [ZJf], [], [((42, "Neg"), 221)], []⟩ [(74, Tryz.f74, .no)] Tryz.f35 (.two .no (.two .no (.two .no (.two .no (.two (.two .no (.two (.cut ⟨⟨[0, 4, 5, 22], [], [.s 7 (.own 30 (.slice (.leaf 3))), .s 23 (.dat (.int .i64))]⟩, [(.exit 0, ⟨[], [], [.s 7 (.own 30 (.slice (.leaf 3)))]⟩)]⟩ (.two (.two .no (.two .no (.two (.cut ⟨⟨[], [], []⟩, [(.norm, ⟨[0, 4, 5, 22, 23], [], [.s 7 (.own 30 (.slice (.leaf 3)))]⟩)]⟩ (.two (.two .no (.two .no (.two .no (.two .no (.two (.two .no (.two (.cut ⟨⟨[0, 4, 5, 7, 8, 9, 22, 23, 36, 37], [], [.s 38 (.dat (.int .i64)), .l (.sl 9) (.own 42 (.leaf 3))]⟩, [(.exit 2, ⟨[0, 4, 5, 7, 9, 22, 23], [], [.l (.sl 9) (.own 42 (.leaf 3))]⟩)]⟩ .no) .no)) .no))))) .no)) .no))) .no)) .no)) .no))))) [.slice (.slice (.leaf 3))] [.slice (.slice (.leaf 3)), .int .i64] (m) = Zso m := by kernel_rfl
theorem Ziz : Zj Tryz.prog Zbn.1 Zbn.2 := Zm (C := ⟨Tryz.prog, [(38, 0), (40, 2), (42, 3), (47, 1), (49, 4)], [Zye, Z1d, Z3d, ZCb, Znm, Zlc], [], [ZJf], [], [((42, "Neg"), 221)], []⟩) ⟨Zwl, ZVl, Zvk, Zeg, ZEy, Zdh, trivial⟩ ⟨Zqq, trivial⟩ trivial ⟨Zck, trivial⟩ (inl := [(74, Tryz.f74, .no)]) ⟨⟨Tryz.func74, fun _ _ => by kernel_rfl⟩, trivial⟩ (ann := (.two .no (.two .no (.two .no (.two .no (.two (.two .no (.two (.cut ⟨⟨[0, 4, 5, 22], [], [.s 7 (.own 30 (.slice (.leaf 3))), .s 23 (.dat (.int .i64))]⟩, [(.exit 0, ⟨[], [], [.s 7 (.own 30 (.slice (.leaf 3)))]⟩)]⟩ (.two (.two .no (.two .no (.two (.cut ⟨⟨[], [], []⟩, [(.norm, ⟨[0, 4, 5, 22, 23], [], [.s 7 (.own 30 (.slice (.leaf 3)))]⟩)]⟩ (.two (.two .no (.two .no (.two .no (.two .no (.two (.two .no (.two (.cut ⟨⟨[0, 4, 5, 7, 8, 9, 22, 23, 36, 37], [], [.s 38 (.dat (.int .i64)), .l (.sl 9) (.own 42 (.leaf 3))]⟩, [(.exit 2, ⟨[0, 4, 5, 7, 9, 22, 23], [], [.l (.sl 9) (.own 42 (.leaf 3))]⟩)]⟩ .no) .no)) .no))))) .no)) .no))) .no)) .no)) .no)))))) Tryz.func35 (fun _ _ => by kernel_rfl) rfl (fun v vals x z ha hz => (ZYu x).trans hz)
end Go.Eng
set_option maxRecDepth 100000
set_option maxHeartbeats 4000000
namespace Go.Eng
open Go.Proofs Go.RowKit
def Z9g:FuncId×Con:=(82,⟨[.slice (.pair (.int .i64) (.int .i64))],[.slice (.pair (.leaf 4) (.pair (.leaf 4) (.pair (.leaf 4) (.leaf 4))))],fun p=>ZGi p⟩)
theorem ZXu (l:List (Int×Int)):Zk ⟨Tryz.prog,[(38,0),(40,2),(42,3),(47,1),(49,4)],[ZYh,ZCe],[],[],[],[],[]⟩ [] Tryz.f82 (.two .no (.two .no (.two (.two .no (.two (.cut ⟨⟨[6,7],[],[.s 3 (.own 51 (.pair (.leaf 4) (.pair (.leaf 4) (.pair (.leaf 4) (.leaf 4))))),.s 8 (.dat (.int .i64))]⟩,[(.exit 0,⟨[],[],[.s 3 (.own 51 (.pair (.leaf 4) (.pair (.leaf 4) (.pair (.leaf 4) (.leaf 4)))))]⟩)]⟩ .no) .no)) .no))) [.slice (.pair (.int .i64) (.int .i64))] [.slice (.pair (.leaf 4) (.pair (.leaf 4) (.pair (.leaf 4) (.leaf 4))))] (l)=ZGi l:=by kernel_rfl
theorem ZXt:Zj Tryz.prog Z9g.1 Z9g.2:=Zm (C:=⟨Tryz.prog,[(38,0),(40,2),(42,3),(47,1),(49,4)],[ZYh,ZCe],[],[],[],[],[]⟩) ⟨rof_k,ZIk,trivial⟩ trivial trivial trivial (inl:=[]) trivial (ann:=(.two .no (.two .no (.two (.two .no (.two (.cut ⟨⟨[6,7],[],[.s 3 (.own 51 (.pair (.leaf 4) (.pair (.leaf 4) (.pair (.leaf 4) (.leaf 4))))),.s 8 (.dat (.int .i64))]⟩,[(.exit 0,⟨[],[],[.s 3 (.own 51 (.pair (.leaf 4) (.pair (.leaf 4) (.pair (.leaf 4) (.leaf 4)))))]⟩)]⟩ .no) .no)) .no)))) Tryz.func82 (fun _ _=>by kernel_rfl) rfl (fun v vals x z ha hz=>(ZXu x).trans hz)
end Go.Eng
set_option maxRecDepth 100000
set_option maxHeartbeats 4000000
namespace Go.Eng
open Go.Proofs Go.RowKit
def ZPm:FuncId×Con:=(81,⟨[.slice (.slice (.pair (.int .i64) (.int .i64)))],[.slice (.slice (.pair (.leaf 4) (.pair (.leaf 4) (.pair (.leaf 4) (.leaf 4)))))],fun p=>Zwq p⟩)
theorem ZOy (m:List (List (Int×Int))):Zk ⟨Tryz.prog,[(38,0),(40,2),(42,3),(47,1),(49,4)],[Z9g],[],[],[],[],[]⟩ [] Tryz.f81 (.two .no (.two .no (.two (.two .no (.two (.cut ⟨⟨[0,3,9],[],[.s 10 (.dat (.int .i64)),.l (.sl 3) (.own 95 (.slice (.pair (.leaf 4) (.pair (.leaf 4) (.pair (.leaf 4) (.leaf 4))))))]⟩,[(.exit 0,⟨[3],[],[.l (.sl 3) (.own 95 (.slice (.pair (.leaf 4) (.pair (.leaf 4) (.pair (.leaf 4) (.leaf 4))))))]⟩)]⟩ .no) .no)) .no))) [.slice (.slice (.pair (.int .i64) (.int .i64)))] [.slice (.slice (.pair (.leaf 4) (.pair (.leaf 4) (.pair (.leaf 4) (.leaf 4)))))] (m)=Zwq m:=by kernel_rfl
theorem Z0w:Zj Tryz.prog ZPm.1 ZPm.2:=Zm (C:=⟨Tryz.prog,[(38,0),(40,2),(42,3),(47,1),(49,4)],[Z9g],[],[],[],[],[]⟩) ⟨ZXt,trivial⟩ trivial trivial trivial (inl:=[]) trivial (ann:=(.two .no (.two .no (.two (.two .no (.two (.cut ⟨⟨[0,3,9],[],[.s 10 (.dat (.int .i64)),.l (.sl 3) (.own 95 (.slice (.pair (.leaf 4) (.pair (.leaf 4) (.pair (.leaf 4) (.leaf 4))))))]⟩,[(.exit 0,⟨[3],[],[.l (.sl 3) (.own 95 (.slice (.pair (.leaf 4) (.pair (.leaf 4) (.pair (.leaf 4) (.leaf 4))))))]⟩)]⟩ .no) .no)) .no)))) Tryz.func81 (fun _ _=>by kernel_rfl) rfl (fun v vals x z ha hz=>(ZOy x).trans hz)
end Go.Eng
set_option maxRecDepth 100000
set_option maxHeartbeats 4000000
namespace Go.Eng
open Go.Proofs Go.RowKit
def Zen:FuncId×Con:=(36,⟨[.slice (.slice (.pair (.int .i64) (.int .i64))),.slice (.pair (.int .i64) (.int .i64)),.slice (.pair (.int .i64) (.int .i64))],[.pair (.slice (.slice (.leaf 3))) (.pair (.slice (.leaf 3)) (.slice (.leaf 3))),.pair (.slice (.slice (.pair (.leaf 4) (.pair (.leaf 4) (.pair (.leaf 4) (.leaf 4)))))) (.pair (.slice (.pair (.leaf 4) (.pair (.leaf 4) (.pair (.leaf 4) (.leaf 4))))) (.slice (.pair (.leaf 4) (.pair (.leaf 4) (.pair (.leaf 4) (.leaf 4))))))],fun p=>ZXo p.1 p.2.1 p.2.2⟩)
theorem Zjy (a:List (List (Int×Int))) (b:List (Int×Int)) (c:List (Int×Int)):Zk ⟨Tryz.prog,[(38,0),(40,2),(42,3),(47,1),(49,4)],[ZYf,ZLf,ZPm,Z9g],[],[],[],[],[]⟩ [] Tryz.f36 .no [.slice (.slice (.pair (.int .i64) (.int .i64))),.slice (.pair (.int .i64) (.int .i64)),.slice (.pair (.int .i64) (.int .i64))] [.pair (.slice (.slice (.leaf 3))) (.pair (.slice (.leaf 3)) (.slice (.leaf 3))),.pair (.slice (.slice (.pair (.leaf 4) (.pair (.leaf 4) (.pair (.leaf 4) (.leaf 4)))))) (.pair (.slice (.pair (.leaf 4) (.pair (.leaf 4) (.pair (.leaf 4) (.leaf 4))))) (.slice (.pair (.leaf 4) (.pair (.leaf 4) (.pair (.leaf 4) (.leaf 4))))))] (a,b,c)=ZXo a b c:=by kernel_rfl
theorem Zty:Zj Tryz.prog Zen.1 Zen.2:=Zm (C:=⟨Tryz.prog,[(38,0),(40,2),(42,3),(47,1),(49,4)],[ZYf,ZLf,ZPm,Z9g],[],[],[],[],[]⟩) ⟨Zco,Zdq,Z0w,ZXt,trivial⟩ trivial trivial trivial (inl:=[]) trivial (ann:=.no) Tryz.func36 (fun _ _=>by kernel_rfl) rfl (fun v vals x z ha hz=>(Zjy x.1 x.2.1 x.2.2).trans hz)
end Go.Eng
set_option maxRecDepth 100000
set_option maxHeartbeats 4000000
namespace Go.Eng
open Go.Proofs Go.RowKit
def Zkh:FuncId×Con:=(83,⟨[.pair (.slice (.slice (.leaf 3))) (.pair (.slice (.leaf 3)) (.slice (.leaf 3)))],[.int .i64],fun p=>ZMm p⟩)
theorem ZGx (p:(List (List Rat))×(List Rat)×(List Rat)):Zk ⟨Tryz.prog,[(38,0),(40,2),(42,3),(47,1),(49,4)],[],[],[],[],[],[]⟩ [(96,Tryz.f96,.no),(113,Tryz.f113,.no),(131,Tryz.f131,.cut ⟨⟨[],[],[]⟩,[(.ret,⟨[],[],[.s 1000 (.dat (.int .i64))]⟩)]⟩ (.two .no (.two (.two .no (.two (.cut ⟨⟨[0,1,7],[],[.s 8 (.dat (.int .i64))]⟩,[(.exit 0,⟨[],[],[]⟩),(.ret,⟨[],[],[.s 1000 (.dat (.int .i64))]⟩)]⟩ .no) .no)) .no)))] Tryz.f83 (.two .no (.two (.two (.cut ⟨⟨[],[],[]⟩,[(.norm,⟨[],[],[.s 27 (.dat .bool)]⟩)]⟩ .no) .no) .no)) [.pair (.slice (.slice (.leaf 3))) (.pair (.slice (.leaf 3)) (.slice (.leaf 3)))] [.int .i64] (p)=ZMm p:=by kernel_rfl
theorem ZYr:Zj Tryz.prog Zkh.1 Zkh.2:=Zm (C:=⟨Tryz.prog,[(38,0),(40,2),(42,3),(47,1),(49,4)],[],[],[],[],[],[]⟩) trivial trivial trivial trivial (inl:=[(96,Tryz.f96,.no),(113,Tryz.f113,.no),(131,Tryz.f131,.cut ⟨⟨[],[],[]⟩,[(.ret,⟨[],[],[.s 1000 (.dat (.int .i64))]⟩)]⟩ (.two .no (.two (.two .no (.two (.cut ⟨⟨[0,1,7],[],[.s 8 (.dat (.int .i64))]⟩,[(.exit 0,⟨[],[],[]⟩),(.ret,⟨[],[],[.s 1000 (.dat (.int .i64))]⟩)]⟩ .no) .no)) .no)))]) ⟨⟨Tryz.func96,fun _ _=>by kernel_rfl⟩,⟨Tryz.func113,fun _ _=>by kernel_rfl⟩,⟨Tryz.func131,fun _ _=>by kernel_rfl⟩,trivial⟩ (ann:=(.two .no (.two (.two (.cut ⟨⟨[],[],[]⟩,[(.norm,⟨[],[],[.s 27 (.dat .bool)]⟩)]⟩ .no) .no) .no))) Tryz.func83 (fun _ _=>by kernel_rfl) rfl (fun v vals x z ha hz=>(ZGx x).trans hz)
end Go.Eng
namespace Go.Eng
open Go.RowKit
def endO (ty:TypeId) (t:T) (c:V) (l:Lo):Option (List t.den):=match c with
 | .cons (.own u) .nl=>match lkE l u with
  | some ⟨_,_,.own ty' t' xs false⟩=>match Nat.beq ty' ty with
   | true=>ZTc t' t xs
   | false=>none
  | _=>none
 | _=>none
def Zfl (C:Cf) (inl:Inl) (fn:Func) (ann:Ann) (ats:List T) (ty:TypeId) (t:T) (x:Zha ats):Option (List t.den):=match fn.body with
 | some c=>Zcc C (Z4h C inl 20) fn.results.toList 0 fn.ntmps c _ ann (Zqc 0 0 (ZHe ats x)) [] 1 ⟨fun _ _ _=>none,fun _ _ _ _=>none,fun c l _=>endO ty t c l⟩
 | none=>none
theorem Z3w {C:Cf} (hC:CfOK C) {inl:Inl} (hinl:Z0c C inl) {f:FuncId} {fn:Func} {ann:Ann} {ats:List T} {ty:TypeId} {t:T} {x:Zha ats} {z:List t.den} (hf:C.P.funcs[f]? = some fn) (hl:Nat.ble ats.length fn.ntmps=true) (h:Zfl C inl fn ann ats ty t x=some z)
  {w:World} {v:Zb} {vals:List Value} (hv:VIn v w) (ha:ZSb v ats vals x):RetO C.P f vals.toArray w v fun y v' w'=>OwnR t.rep ty t.n z w y v' w':=by
 unfold Zfl at h;split at h
 ·rename_i c hc;obtain ⟨h1,h2,h3⟩:=ZWk (γ:=fun _=>.box 0) (l:=[]) (U:=(· < 0)) ha;have hK:vals.length≤fn.ntmps:=by rw [h3];exact Nat.le_of_ble_eq_true hl
  refine Zul hv hf hc rfl hK fun a hS=>?_;have hr:RelX fn.ntmps (fun _ _=>False) w v (· < 1) (· < 1) (Zqc 0 0 (ZHe ats x)) [] a w (fun _=>.box 0) v []:=by
   refine ⟨⟨hS.size,hS.dfr,fun t x h=>(by cases h),hS.ext,hS.vst,hS.loc,hS.nd⟩,fun t e he=>?_,⟨[],trivial,List.Perm.refl _⟩,List.nodup_nil,fun t e he=>?_,fun e he=>(by cases he),fun x y h=>h.elim⟩
   ·obtain ⟨y,q1,q2,q3,q4,q5⟩:=ZFd h1 h2 he;have:=hS.fr t y ?_
    ·rw [this];exact q3
    ·have q2:vals[t-0]? = some y:=q2;have:=Z7l (k:=0) (t:=t) (y:=y) (by simpa using q2)
     rwa [Nat.zero_add] at this
   ·obtain ⟨y,q1,q2,q3,q4,q5⟩:=ZFd h1 h2 he;exact ⟨V.ok.mono (fun k h=>absurd h (Nat.not_lt_zero k)) q4,by show e.st<1;omega⟩
  refine Zgk hC (Zeo hC hinl 20) c h ⟨_,_,_,hr⟩ ⟨fun f' l' n' a' w' hp hn' ho' hr'=>(by cases hp),fun i f' l' n' a' w' hp hn' ho' hr'=>(by cases hp),fun c l' n' a' w' hp hn' ho' hr'=>?_⟩;obtain ⟨γ',v',ℓ',vals',hr',hc',hk',hres⟩:=hr';have hp:endO ty t c l'=some z:=hp;unfold endO at hp;split at hp
  ·rename_i u;split at hp
   ·rename_i kk st ty' t' xs he;split at hp
    ·rename_i hty;have hty:=Nat.eq_of_beq_eq_true hty;subst hty;obtain ⟨e1,e2⟩:=Zea hp
     cases e1;cases e2
     obtain ⟨c1,xs1,rfl,⟨y,rfl,_,hy⟩,hx1⟩:=hc';have hx1:xs1=[]:=hx1;subst hx1;obtain ⟨ob,cap,g1,rfl⟩:=hy _ he;obtain ⟨hkk,es,hes,hmem⟩:=hr'.loc he;have hkk:kk=_:=hkk;subst hkk;obtain ⟨ob',cap',cs,q1,q2,rfl⟩:=hes;have q1:γ' kk = .own ob' cap':=q1;rw [g1] at q1;cases q1;obtain ⟨jj,hj⟩:=hmem _ List.mem_cons_self;obtain ⟨hh,hb⟩:=hr'.st.loc _ (List.mem_of_getElem? hj);refine ⟨hr'.st.dfr,_,ZVj hres,_,v',rfl,hr'.st.ext.ext,hr'.st.vst.ext,ob,_,cap,cs,rfl,hh,fun b e=>?_,q2,rfl⟩;obtain ⟨h1,h2⟩:=hb b e;rcases h1 with h1 | h1
     ·exact ⟨h1,h2⟩
     ·cases h1
    ·cases hp
   ·cases hp
  ·cases hp
 ·cases h
theorem cono_k {C:Cf} (hc:CL C.P C.cons) (ho:OL C.P C.owns) (hi:IL C.P C.ins) (hm:ML C.P C.meths) {inl:Inl} (hn:NL C.P inl) {f:FuncId} {fn:Func} {ann:Ann} {con:ConO} (hf:C.P.funcs[f]? = some fn) (hen:Z8 C.P f) (hl:Nat.ble con.args.length fn.ntmps=true)
  (h:∀ x z,con.F x=some z→Zfl C inl fn ann con.args con.ty con.t x=some z) (hq:QL C.P C.omats:=by exact trivial):ZTg C.P f con :=
 fun _ _ _ x z hv ha hz=>⟨hen,Z3w (CfOK.of hc ho hi hm hq) (Z0c.of hn) hf hl (h x z hz) hv ha⟩
def endM (ty ty2:TypeId) (t:T) (c:V) (l:Lo):Option (List (List t.den)):=match c with
 | .cons (.own u) .nl=>match lkE l u with
  | some ⟨_,_,.mat ty' ty2' t' m _⟩=>match Nat.beq ty' ty,Nat.beq ty2' ty2 with
   | true,true=>ZKb t' t m
   | _,_=>none
  | _=>none
 | _=>none
def Zfj (C:Cf) (inl:Inl) (fn:Func) (ann:Ann) (ats:List T) (ty ty2:TypeId) (t:T) (x:Zha ats):Option (List (List t.den)):=match fn.body with
 | some c=>Zcc C (Z4h C inl 20) fn.results.toList 0 fn.ntmps c _ ann (Zqc 0 0 (ZHe ats x)) [] 1 ⟨fun _ _ _=>none,fun _ _ _ _=>none,fun c l _=>endM ty ty2 t c l⟩
 | none=>none
theorem Zqy {ℓ es:List Loc} {E:List Loc} (h:(ℓ.filterMap Loc.blk).Nodup) (hp:ℓ.Perm (es++E)):(es.filterMap Loc.blk).Nodup:=by
 have h1:=(hp.filterMap Loc.blk).nodup_iff.1 h;rw [List.filterMap_append] at h1;exact (List.nodup_append.1 h1).1
theorem ZIw {C:Cf} (hC:CfOK C) {inl:Inl} (hinl:Z0c C inl) {f:FuncId} {fn:Func} {ann:Ann} {ats:List T} {ty ty2:TypeId} {t:T} {x:Zha ats} {z:List (List t.den)} (hf:C.P.funcs[f]? = some fn) (hl:Nat.ble ats.length fn.ntmps=true) (h:Zfj C inl fn ann ats ty ty2 t x=some z)
  {w:World} {v:Zb} {vals:List Value} (hv:VIn v w) (ha:ZSb v ats vals x):RetO C.P f vals.toArray w v (OwnM ty ty2 t z w):=by
 unfold Zfj at h;split at h
 ·rename_i c hc;obtain ⟨h1,h2,h3⟩:=ZWk (γ:=fun _=>.box 0) (l:=[]) (U:=(· < 0)) ha;have hK:vals.length≤fn.ntmps:=by rw [h3];exact Nat.le_of_ble_eq_true hl
  refine Zul hv hf hc rfl hK fun a hS=>?_;have hr:RelX fn.ntmps (fun _ _=>False) w v (· < 1) (· < 1) (Zqc 0 0 (ZHe ats x)) [] a w (fun _=>.box 0) v []:=by
   refine ⟨⟨hS.size,hS.dfr,fun t x h=>(by cases h),hS.ext,hS.vst,hS.loc,hS.nd⟩,fun t e he=>?_,⟨[],trivial,List.Perm.refl _⟩,List.nodup_nil,fun t e he=>?_,fun e he=>(by cases he),fun x y h=>h.elim⟩
   ·obtain ⟨y,q1,q2,q3,q4,q5⟩:=ZFd h1 h2 he;have:=hS.fr t y ?_
    ·rw [this];exact q3
    ·have q2:vals[t-0]? = some y:=q2;have:=Z7l (k:=0) (t:=t) (y:=y) (by simpa using q2)
     rwa [Nat.zero_add] at this
   ·obtain ⟨y,q1,q2,q3,q4,q5⟩:=ZFd h1 h2 he;exact ⟨V.ok.mono (fun k h=>absurd h (Nat.not_lt_zero k)) q4,by show e.st<1;omega⟩
  refine Zgk hC (Zeo hC hinl 20) c h ⟨_,_,_,hr⟩ ⟨fun f' l' n' a' w' hp hn' ho' hr'=>(by cases hp),fun i f' l' n' a' w' hp hn' ho' hr'=>(by cases hp),fun c l' n' a' w' hp hn' ho' hr'=>?_⟩;obtain ⟨γ',v',ℓ',vals',hr',hc',hk',hres⟩:=hr';have hp:endM ty ty2 t c l'=some z:=hp;unfold endM at hp;split at hp
  ·rename_i u;split at hp
   ·rename_i kk st ty' ty2' t' m' hv' he;split at hp
    ·rename_i hty hty2;have hty:=Nat.eq_of_beq_eq_true hty;have hty2:=Nat.eq_of_beq_eq_true hty2;subst hty hty2;obtain ⟨e1,e2⟩:=Zea hp
     cases e1;cases e2
     obtain ⟨c1,xs1,rfl,⟨y,rfl,_,hy⟩,hx1⟩:=hc';have hx1:xs1=[]:=hx1;subst hx1;obtain ⟨ob,cap,rows0,g1,rfl⟩:=hy _ he;obtain ⟨E,hE,hpm⟩:=hr'.lr;obtain ⟨es,E',r1,r2,r3⟩:=ZDg hE he;obtain ⟨ob',cap',rows,es2,q1,q2,rfl⟩:=r1;have hkk:kk=_:=(Zz he).2;subst hkk;have q1:γ' kk = .mat ob' cap' rows:=q1;rw [g1] at q1;cases q1;refine ⟨hr'.st.dfr,_,ZVj hres,_,v',rfl,hr'.st.ext.ext,hr'.st.vst.ext,_,_,_,es2,rfl,q2,fun x hx=>?_,Zqy hr'.st.nd (hpm.trans r3)⟩;obtain ⟨hh,hb⟩:=hr'.st.loc x ((hpm.trans r3).mem_iff.2 (List.mem_append_left _ hx));refine ⟨hh,fun b e=>?_⟩;obtain ⟨h1,h2⟩:=hb b e;rcases h1 with h1 | h1
     ·exact ⟨h1,h2⟩
     ·cases h1
    ·cases hp
   ·cases hp
  ·cases hp
 ·cases h
theorem ZQr {C:Cf} (hc:CL C.P C.cons) (ho:OL C.P C.owns) (hi:IL C.P C.ins) (hm:ML C.P C.meths) {inl:Inl} (hn:NL C.P inl) {f:FuncId} {fn:Func} {ann:Ann} {con:ConM} (hf:C.P.funcs[f]? = some fn) (hen:Z8 C.P f) (hl:Nat.ble con.args.length fn.ntmps=true)
  (h:∀ x z,con.F x=some z→Zfj C inl fn ann con.args con.ty con.ty2 con.t x=some z) (hq:QL C.P C.omats:=by exact trivial):ZEh C.P f con :=
 fun _ _ _ x z hv ha hz=>⟨hen,ZIw (CfOK.of hc ho hi hm hq) (Z0c.of hn) hf hl (h x z hz) hv ha⟩
end Go.Eng
set_option maxRecDepth 100000
set_option maxHeartbeats 4000000
namespace Go.Eng
open Go.Proofs Go.RowKit
def Zwc:FuncId×ConO:=(74,⟨[.int .i64],42,.leaf 3,fun p=>Zue p⟩)
theorem ZKw (n:Int):Zfl ⟨Tryz.prog,[(38,0),(40,2),(42,3),(47,1),(49,4)],[ZCb],[],[ZJf],[],[],[]⟩ [] Tryz.f74 .no [.int .i64] 42 (.leaf 3) (n)=Zue n:=by kernel_rfl
theorem Zvi:ZTg Tryz.prog Zwc.1 Zwc.2:=cono_k (C:=⟨Tryz.prog,[(38,0),(40,2),(42,3),(47,1),(49,4)],[ZCb],[],[ZJf],[],[],[]⟩) ⟨Zeg,trivial⟩ ⟨Zqq,trivial⟩ trivial trivial (inl:=[]) trivial (ann:=.no) Tryz.func74 (fun _ _=>by kernel_rfl) rfl (fun x z hz=>(ZKw x).trans hz)
end Go.Eng
set_option maxRecDepth 100000
set_option maxHeartbeats 4000000
namespace Go.Eng
open Go.Proofs Go.RowKit
def Zan:FuncId×ConM:=(101,⟨[.slice (.slice (.leaf 3))],30,42,.leaf 3,fun p=>Zop p⟩)
theorem Zwv (m:List (List Rat)):Zfj ⟨Tryz.prog,[(38,0),(40,2),(42,3),(47,1),(49,4)],[],[8],[Z3c],[],[],[]⟩ [] Tryz.f101 (.two .no (.two .no (.two (.two .no (.two (.cut ⟨⟨[3,9,10],[],[.s 11 (.dat (.int .i64)),.l (.sl 3) (.mat 30 42 (.leaf 3))]⟩,[(.exit 0,⟨[3],[],[.l (.sl 3) (.mat 30 42 (.leaf 3))]⟩)]⟩ .no) .no)) .no))) [.slice (.slice (.leaf 3))] 30 42 (.leaf 3) (m)=Zop m:=by kernel_rfl
theorem Zhz:ZEh Tryz.prog Zan.1 Zan.2:=ZQr (C:=⟨Tryz.prog,[(38,0),(40,2),(42,3),(47,1),(49,4)],[],[8],[Z3c],[],[],[]⟩) trivial ⟨Z8i,trivial⟩ trivial trivial (inl:=[]) trivial (ann:=(.two .no (.two .no (.two (.two .no (.two (.cut ⟨⟨[3,9,10],[],[.s 11 (.dat (.int .i64)),.l (.sl 3) (.mat 30 42 (.leaf 3))]⟩,[(.exit 0,⟨[3],[],[.l (.sl 3) (.mat 30 42 (.leaf 3))]⟩)]⟩ .no) .no)) .no)))) Tryz.func101 (fun _ _=>by kernel_rfl) rfl (fun x z hz=>(Zwv x).trans hz)
end Go.Eng
set_option maxRecDepth 100000
set_option maxHeartbeats 4000000
namespace Go.Eng
open Go.Proofs Go.RowKit
def Zdm:FuncId×Con:=(117,⟨[.ptr (.pair (.slice (.slice (.leaf 3))) (.pair (.slice (.leaf 3)) (.pair (.slice (.leaf 3)) (.pair (.leaf 3) (.pair (.slice (.int .i64)) (.slice (.int .i64))))))),.int .i64],[.slice (.leaf 3)],fun p=>Zyq p.1 p.2⟩)
theorem ZZy (t:(List (List Rat))×(List Rat)×(List Rat)×Rat×(List Int)×(List Int)) (n:Int):Zk ⟨Tryz.prog,[(38,0),(40,2),(42,3),(47,1),(49,4)],[],[],[Zwc],[],[],[]⟩ [] Tryz.f117 (.two .no (.two .no (.two (.two .no (.two (.cut ⟨⟨[0,1,5,13,14],[],[.s 15 (.dat (.int .i64)),.l (.sl 5) (.own 42 (.leaf 3))]⟩,[(.exit 0,⟨[5],[],[.l (.sl 5) (.own 42 (.leaf 3))]⟩)]⟩ (.two (.two .no (.two .no (.two (.two (.two .no (.two .no (.cut ⟨⟨[],[],[]⟩,[(.norm,⟨[0,1,5,13,14,15],[],[.l (.sl 5) (.own 42 (.leaf 3))]⟩)]⟩ .no))) .no) .no))) .no)) .no)) .no))) [.ptr (.pair (.slice (.slice (.leaf 3))) (.pair (.slice (.leaf 3)) (.pair (.slice (.leaf 3)) (.pair (.leaf 3) (.pair (.slice (.int .i64)) (.slice (.int .i64))))))),.int .i64] [.slice (.leaf 3)] (t,n)=Zyq t n:=by kernel_rfl
theorem Z7x:Zj Tryz.prog Zdm.1 Zdm.2:=Zm (C:=⟨Tryz.prog,[(38,0),(40,2),(42,3),(47,1),(49,4)],[],[],[Zwc],[],[],[]⟩) trivial ⟨Zvi,trivial⟩ trivial trivial (inl:=[]) trivial (ann:=(.two .no (.two .no (.two (.two .no (.two (.cut ⟨⟨[0,1,5,13,14],[],[.s 15 (.dat (.int .i64)),.l (.sl 5) (.own 42 (.leaf 3))]⟩,[(.exit 0,⟨[5],[],[.l (.sl 5) (.own 42 (.leaf 3))]⟩)]⟩ (.two (.two .no (.two .no (.two (.two (.two .no (.two .no (.cut ⟨⟨[],[],[]⟩,[(.norm,⟨[0,1,5,13,14,15],[],[.l (.sl 5) (.own 42 (.leaf 3))]⟩)]⟩ .no))) .no) .no))) .no)) .no)) .no)))) Tryz.func117 (fun _ _=>by kernel_rfl) rfl (fun v vals x z ha hz=>(ZZy x.1 x.2).trans hz)
end Go.Eng
set_option maxRecDepth 100000
set_option maxHeartbeats 4000000
namespace Go.Eng
open Go.Proofs Go.RowKit
def Zom:FuncId×Con:=(118,⟨[.ptr (.pair (.slice (.slice (.leaf 3))) (.pair (.slice (.leaf 3)) (.pair (.slice (.leaf 3)) (.pair (.leaf 3) (.pair (.slice (.int .i64)) (.slice (.int .i64))))))),.int .i64,.int .i64],[.slice (.leaf 3)],fun p=>Z9n p.1 p.2.1 p.2.2⟩)
theorem ZIx (t : (List (List Rat)) × (List Rat) × (List Rat) × Rat × (List Int) × (List Int)) (n : Int) (k : Int) : Zk ⟨Tryz.prog, [(38, 0), (40, 2), (42, 3), (47, 1), (49, 4)], [Zlc], [], [Zwc], [], [((42, "Neg"), 221)], []⟩ [] Tryz.f118 (.two .no (.two .no (.two (.two .no (.two (.cut ⟨⟨[0, 1, 2, 7, 15, 16], [], [.s 17 (.dat (.int .i64)), .l (.sl 7) (.own 42 (.leaf 3))]⟩, [(.exit 0, ⟨[7], [], [.l (.sl 7) (.own 42 (.leaf 3))]⟩)]⟩ (.two (.two .no (.two .no (.two (.two (.two .no (.two (.cut ⟨⟨[], [], []⟩, [(.norm, ⟨[0, 1, 2, 7, 8, 9, 15, 16, 17], [], [.s 31 (.dat .bool)]⟩)]⟩ .no) (.cut ⟨⟨[], [], []⟩, [(.norm, ⟨[0, 1, 2, 7, 15, 16, 17], [], [.l (.sl 7) (.own 42 (.leaf 3))]⟩)]⟩ .no))) .no) .no))) .no)) .no)) .no))) [.ptr (.pair (.slice (.slice (.leaf 3))) (.pair (.slice (.leaf 3)) (.pair (.slice (.leaf 3)) (.pair (.leaf 3) (.pair (.slice (.int .i64)) (.slice (.int .i64))))))), .int .i64, .int .i64] [.slice (.leaf 3)] (t, n, k) = Z9n t n k := by kernel_rfl
theorem ZYy : Zj Tryz.prog Zom.1 Zom.2 := Zm (C := ⟨Tryz.prog, [(38, 0), (40, 2), (42, 3), (47, 1), (49, 4)], [Zlc], [], [Zwc], [], [((42, "Neg"), 221)], []⟩) ⟨Zdh, trivial⟩ ⟨Zvi, trivial⟩ trivial ⟨Zck, trivial⟩ (inl := []) trivial (ann := (.two .no (.two .no (.two (.two .no (.two (.cut ⟨⟨[0, 1, 2, 7, 15, 16], [], [.s 17 (.dat (.int .i64)), .l (.sl 7) (.own 42 (.leaf 3))]⟩, [(.exit 0, ⟨[7], [], [.l (.sl 7) (.own 42 (.leaf 3))]⟩)]⟩ (.two (.two .no (.two .no (.two (.two (.two .no (.two (.cut ⟨⟨[], [], []⟩, [(.norm, ⟨[0, 1, 2, 7, 8, 9, 15, 16, 17], [], [.s 31 (.dat .bool)]⟩)]⟩ .no) (.cut ⟨⟨[], [], []⟩, [(.norm, ⟨[0, 1, 2, 7, 15, 16, 17], [], [.l (.sl 7) (.own 42 (.leaf 3))]⟩)]⟩ .no))) .no) .no))) .no)) .no)) .no)))) Tryz.func118 (fun _ _ => by kernel_rfl) rfl (fun v vals x z ha hz => (ZIx x.1 x.2.1 x.2.2).trans hz)
end Go.Eng
set_option maxRecDepth 100000
set_option maxHeartbeats 4000000
namespace Go.Eng
open Go.Proofs Go.RowKit
def ZQk:FuncId×Con:=(192,⟨[.leaf 2],[.int .i64],fun p=>ZHi p⟩)
theorem isign_i (x:Int):Zk ⟨Tryz.prog,[(38,0),(40,2),(42,3)],[],[],[],[],[],[]⟩ [] Tryz.f192 .no [.leaf 2] [.int .i64] (x)=ZLp x:=by kernel_rfl
theorem isign_k:Zj Tryz.prog ZQk.1 ZQk.2:=Zm (C:=⟨Tryz.prog,[(38,0),(40,2),(42,3)],[],[],[],[],[],[]⟩) trivial trivial trivial trivial (inl:=[]) trivial (ann:=.no) Tryz.func192 (fun _ _=>by kernel_rfl) rfl fun v vals x z ha hz=>(isign_i x).trans (Zjw hz)
end Go.Eng
set_option maxRecDepth 100000
set_option maxHeartbeats 4000000
namespace Go.Eng
open Go.Proofs Go.RowKit
def Z9d:FuncId×Con:=(173,⟨[.leaf 3],[.int .i64],fun p=>ZMd p⟩)
theorem qsign_i (x:Rat):Zk ⟨Tryz.prog,[(38,0),(40,2),(42,3)],[ZQk],[],[],[],[],[]⟩ [] Tryz.f173 .no [.leaf 3] [.int .i64] (x)=Z5n x:=by kernel_rfl
theorem Zqn:Zj Tryz.prog Z9d.1 Z9d.2:=Zm (C:=⟨Tryz.prog,[(38,0),(40,2),(42,3)],[ZQk],[],[],[],[],[]⟩) ⟨isign_k,trivial⟩ trivial trivial trivial (inl:=[]) trivial (ann:=.no) Tryz.func173 (fun _ _=>by kernel_rfl) rfl fun v vals x z ha hz=>(qsign_i x).trans (Z6y hz)
end Go.Eng
set_option maxRecDepth 100000
set_option maxHeartbeats 4000000
namespace Go.Eng
open Go.Proofs Go.RowKit
def ZRh:FuncId×Con:=(216,⟨[.leaf 3,.leaf 3],[.int .i64],fun p=>Z9h p.1 p.2⟩)
theorem qcmp_i (x:Rat) (y:Rat):Zk ⟨Tryz.prog,[(38,0),(40,2),(42,3)],[Z9d,Zoe],[],[],[],[],[]⟩ [] Tryz.f216 .no [.leaf 3,.leaf 3] [.int .i64] (x,y)=Zpq x y:=by kernel_rfl
theorem Zss:Zj Tryz.prog ZRh.1 ZRh.2:=Zm (C:=⟨Tryz.prog,[(38,0),(40,2),(42,3)],[Z9d,Zoe],[],[],[],[],[]⟩) ⟨Zqn,ZGm,trivial⟩ trivial trivial trivial (inl:=[]) trivial (ann:=.no) Tryz.func216 (fun _ _=>by kernel_rfl) rfl fun v vals x z ha hz=>(qcmp_i x.1 x.2).trans (ZCz hz)
end Go.Eng
set_option maxRecDepth 100000
set_option maxHeartbeats 4000000
namespace Go.Eng
open Go.Proofs Go.RowKit
def Z9l:FuncId×Con:=(84,⟨[.pair (.slice (.slice (.leaf 3))) (.pair (.slice (.leaf 3)) (.slice (.leaf 3)))],[.pair (.int .i64) (.pair (.leaf 3) (.pair (.slice (.leaf 3)) (.pair (.slice (.leaf 3)) (.slice (.leaf 3)))))],fun p=>Z1n p⟩)
theorem Z2u (p : (List (List Rat)) × (List Rat) × (List Rat)) : Zk ⟨Tryz.prog, [(38, 0), (40, 2), (42, 3), (47, 1), (49, 4)], [ZCb, Zdm, Zom, ZUc, Z9d, Z6d, ZRh, Zbg, Z4c, Zlc, Zoe], [], [Z3c, Zwc], [], [((42, "Add"), 215), ((42, "Cmp"), 216), ((42, "Div"), 218), ((42, "Mul"), 219), ((42, "Neg"), 221), ((42, "Sign"), 173), ((42, "Sub"), 224), ((42, "Zero"), 172)], [Zan]⟩ [(114, Tryz.f114, .two .no (.two .no (.two (.two .no (.two (.cut ⟨⟨[1, 3, 20], [.fld (.sl 3) 0, .fld (.sl 3) 1, .fld (.sl 3) 2], [.s 21 (.dat (.int .i64)), .l (.sl 3) (.box 173 (.agg (.cons (.mat 30 42 (.leaf 3)) (.cons (.own 42 (.leaf 3)) (.cons (.own 42 (.leaf 3)) (.cons (.dat (.leaf 3)) (.cons (.own 3 (.int .i64)) (.one (.own 3 (.int .i64))))))))))]⟩, [(.exit 0, ⟨[1, 3], [.fld (.sl 3) 0, .fld (.sl 3) 1, .fld (.sl 3) 2], [.l (.sl 3) (.box 173 (.agg (.cons (.mat 30 42 (.leaf 3)) (.cons (.own 42 (.leaf 3)) (.cons (.own 42 (.leaf 3)) (.cons (.dat (.leaf 3)) (.cons (.own 3 (.int .i64)) (.one (.own 3 (.int .i64))))))))))]⟩)]⟩ .no) .no)) (.two (.two .no (.two (.cut ⟨⟨[1, 3, 37], [.fld (.sl 3) 0, .fld (.sl 3) 1, .fld (.sl 3) 2, .fld (.sl 3) 6, .fld (.sl 3) 7], [.s 38 (.dat (.int .i64)), .l (.sl 3) (.box 173 (.agg (.cons (.mat 30 42 (.leaf 3)) (.cons (.own 42 (.leaf 3)) (.cons (.own 42 (.leaf 3)) (.cons (.dat (.leaf 3)) (.cons (.own 3 (.int .i64)) (.one (.own 3 (.int .i64))))))))))]⟩, [(.exit 2, ⟨[3], [.fld (.sl 3) 0, .fld (.sl 3) 1, .fld (.sl 3) 2, .fld (.sl 3) 6, .fld (.sl 3) 7], [.l (.sl 3) (.box 173 (.agg (.cons (.mat 30 42 (.leaf 3)) (.cons (.own 42 (.leaf 3)) (.cons (.own 42 (.leaf 3)) (.cons (.dat (.leaf 3)) (.cons (.own 3 (.int .i64)) (.one (.own 3 (.int .i64))))))))))]⟩)]⟩ .no) .no)) .no)))), (115, Tryz.f115, .two .no (.two .no (.two .no (.two (.two .no (.two (.cut ⟨⟨[0, 3, 6, 7, 8, 34, 35], [], [.s 9 (.dat (.int .i64)), .s 36 (.dat (.int .i64))]⟩, [(.exit 0, ⟨[0, 3, 6, 7, 8], [], [.s 9 (.dat (.int .i64))]⟩)]⟩ (.two (.two .no (.two .no (.two (.two (.two .no (.two (.cut ⟨⟨[], [], []⟩, [(.norm, ⟨[0, 3, 6, 7, 8, 9, 10, 34, 35, 36], [], [.s 61 (.dat .bool)]⟩)]⟩ .no) (.cut ⟨⟨[], [], []⟩, [(.norm, ⟨[0, 3, 6, 7, 8, 34, 35, 36], [], [.s 9 (.dat (.int .i64))]⟩)]⟩ .no))) .no) .no))) .no)) .no)) (.two .no (.two (.two .no (.two (.unroll 0 .no) .no)) .no)))))), (116, Tryz.f116, .two .no (.two (.cut ⟨⟨[0, 1], [.fld (.sl 0) 0, .fld (.sl 0) 1, .fld (.sl 0) 2, .fld (.sl 0) 6, .fld (.sl 0) 7], [.l (.sl 0) (.box 173 (.agg (.cons (.mat 30 42 (.leaf 3)) (.cons (.own 42 (.leaf 3)) (.cons (.own 42 (.leaf 3)) (.cons (.dat (.leaf 3)) (.cons (.own 3 (.int .i64)) (.one (.own 3 (.int .i64))))))))))]⟩, [(.ret, ⟨[], [.fld (.sl 0) 0, .fld (.sl 0) 1, .fld (.sl 0) 2, .fld (.sl 0) 6, .fld (.sl 0) 7], [.s 1000 (.dat (.int .i64)), .l (.sl 0) (.box 173 (.agg (.cons (.mat 30 42 (.leaf 3)) (.cons (.own 42 (.leaf 3)) (.cons (.own 42 (.leaf 3)) (.cons (.dat (.leaf 3)) (.cons (.own 3 (.int .i64)) (.one (.own 3 (.int .i64))))))))))]⟩)]⟩ .no) .no)), (143, Tryz.f143, .two .no (.two .no (.two (.two .no (.two (.cut ⟨⟨[0, 1, 2, 7, 37], [], [.s 38 (.dat (.int .i64)), .l (.sl 20) (.mat 30 42 (.leaf 3))]⟩, [(.exit 0, ⟨[0, 1, 2, 7], [], [.l (.sl 20) (.mat 30 42 (.leaf 3))]⟩)]⟩ .no) .no)) (.two .no (.two .no (.two (.two .no (.two (.cut ⟨⟨[0, 1, 2, 94], [], [.s 95 (.dat (.int .i64)), .l (.sl 67) (.mat 30 42 (.leaf 3)), .l (.sl 77) (.own 42 (.leaf 3))]⟩, [(.exit 2, ⟨[0, 1, 2], [], [.l (.sl 67) (.mat 30 42 (.leaf 3)), .l (.sl 77) (.own 42 (.leaf 3))]⟩)]⟩ (.two (.two .no (.two .no (.two (.cut ⟨⟨[], [], []⟩, [(.norm, ⟨[0, 1, 2, 94, 95], [], [.l (.fld (.sl 0) 0) (.mat 30 42 (.leaf 3)), .l (.fld (.sl 0) 1) (.own 42 (.leaf 3))]⟩)]⟩ (.two (.two .no (.two (.two (.cut ⟨⟨[], [], []⟩, [(.norm, ⟨[0, 1, 2, 10, 94, 95], [], [.s 114 (.dat .bool)]⟩)]⟩ .no) .no) .no)) .no)) .no))) .no)) .no)) .no)))))), (148, Tryz.f148, .two .no (.two .no (.two (.two .no (.two (.cut ⟨⟨[0, 9, 10], [], [.s 3 (.dat (.int .i64)), .s 11 (.dat (.int .i64))]⟩, [(.exit 0, ⟨[], [], [.s 3 (.dat (.int .i64))]⟩)]⟩ (.two (.two .no (.two .no (.two (.two (.two .no (.two (.cut ⟨⟨[], [], []⟩, [(.norm, ⟨[0, 3, 4, 9, 10, 11], [], [.s 40 (.dat .bool)]⟩)]⟩ .no) (.cut ⟨⟨[], [], []⟩, [(.norm, ⟨[0, 9, 10, 11], [], [.s 3 (.dat (.int .i64))]⟩)]⟩ .no))) .no) .no))) .no)) .no)) .no))), (149, Tryz.f149, .two .no (.two .no (.two .no (.two (.two .no (.two (.cut ⟨⟨[0, 1, 2, 8, 17], [], [.s 7 (.dat (.int .i64)), .s 18 (.dat (.int .i64)), .l (.sl 8) (.box 42 (.dat (.leaf 3)))]⟩, [(.exit 0, ⟨[], [], [.s 7 (.dat (.int .i64))]⟩)]⟩ (.two (.two .no (.two .no (.two (.cut ⟨⟨[], [], []⟩, [(.norm, ⟨[0, 1, 2, 8, 17, 18], [], [.s 7 (.dat (.int .i64)), .l (.sl 8) (.box 42 (.dat (.leaf 3)))]⟩)]⟩ (.two (.two .no (.two .no (.two .no (.two .no (.two (.two .no (.cut ⟨⟨[], [], []⟩, [(.norm, ⟨[0, 1, 2, 7, 8, 9, 10, 17, 18], [], [.s 12 (.dat (.int .i64))]⟩)]⟩ .no)) (.two (.cut ⟨⟨[], [], []⟩, [(.norm, ⟨[0, 1, 2, 7, 8, 9, 10, 17, 18], [], [.s 110 (.dat .bool)]⟩)]⟩ .no) (.cut ⟨⟨[], [], []⟩, [(.norm, ⟨[0, 1, 2, 8, 17, 18], [], [.s 7 (.dat (.int .i64)), .l (.sl 8) (.box 42 (.dat (.leaf 3)))]⟩)]⟩ .no))))))) .no)) .no))) .no)) .no)) .no)))), (176, Tryz.f176, .sel 1 (.two .no (.two (.two .no (.two (.cut ⟨⟨[0, 1, 2, 3, 8, 15], [], [.s 16 (.dat (.int .i64)), .l (.fld (.sl 0) 0) (.agg (.mat 30 42 (.leaf 3)))]⟩, [(.exit 0, ⟨[0, 1, 2, 3, 8], [], [.l (.fld (.sl 0) 0) (.agg (.mat 30 42 (.leaf 3)))]⟩)]⟩ .no) .no)) .no)) (.two .no (.two (.two .no (.two (.cut ⟨⟨[0, 1, 2, 3, 8, 15], [], [.s 16 (.dat (.int .i64)), .l (.sl 1) (.own 42 (.leaf 3))]⟩, [(.exit 0, ⟨[0, 1, 2, 3, 8], [], [.l (.sl 1) (.own 42 (.leaf 3))]⟩)]⟩ .no) .no)) .no)))] Tryz.f84 (.two .no (.two .no (.two .no (.two .no (.two .no (.two (.cut ⟨⟨[], [], []⟩, [(.norm, ⟨[2, 3, 4, 6], [], [.s 5 (.dat (.ptr (.pair (.slice (.slice (.leaf 3))) (.pair (.slice (.leaf 3)) (.pair (.slice (.leaf 3)) (.pair (.leaf 3) (.pair (.slice (.int .i64)) (.slice (.int .i64))))))))), .s 9 (.dat (.int .i64))]⟩)]⟩ .no) (.two .no (.two .no (.two (.two .no (.two .no (.cut ⟨⟨[], [], []⟩, [(.norm, ⟨[2, 3, 5, 6, 9, 10], [], [.l (.sl 10) (.own 42 (.leaf 3))]⟩)]⟩ .no))) (.two (.two .no (.two (.unroll 0 .no) .no)) .no)))))))))) [.pair (.slice (.slice (.leaf 3))) (.pair (.slice (.leaf 3)) (.slice (.leaf 3)))] [.pair (.int .i64) (.pair (.leaf 3) (.pair (.slice (.leaf 3)) (.pair (.slice (.leaf 3)) (.slice (.leaf 3)))))] (p) = Z1n p := by kernel_rfl
theorem Zfz : Zj Tryz.prog Z9l.1 Z9l.2 := Zm (C := ⟨Tryz.prog, [(38, 0), (40, 2), (42, 3), (47, 1), (49, 4)], [ZCb, Zdm, Zom, ZUc, Z9d, Z6d, ZRh, Zbg, Z4c, Zlc, Zoe], [], [Z3c, Zwc], [], [((42, "Add"), 215), ((42, "Cmp"), 216), ((42, "Div"), 218), ((42, "Mul"), 219), ((42, "Neg"), 221), ((42, "Sign"), 173), ((42, "Sub"), 224), ((42, "Zero"), 172)], [Zan]⟩) ⟨Zeg, Z7x, ZYy, ZOi, Zqn, Zpn, Zss, ZQp, Z7i, Zdh, ZGm, trivial⟩ ⟨Z8i, Zvi, trivial⟩ trivial ⟨Z7o, Zhr, ZEp, ZSi, Zck, ZJp, Zmp, Zll, trivial⟩ (inl := [(114, Tryz.f114, .two .no (.two .no (.two (.two .no (.two (.cut ⟨⟨[1, 3, 20], [.fld (.sl 3) 0, .fld (.sl 3) 1, .fld (.sl 3) 2], [.s 21 (.dat (.int .i64)), .l (.sl 3) (.box 173 (.agg (.cons (.mat 30 42 (.leaf 3)) (.cons (.own 42 (.leaf 3)) (.cons (.own 42 (.leaf 3)) (.cons (.dat (.leaf 3)) (.cons (.own 3 (.int .i64)) (.one (.own 3 (.int .i64))))))))))]⟩, [(.exit 0, ⟨[1, 3], [.fld (.sl 3) 0, .fld (.sl 3) 1, .fld (.sl 3) 2], [.l (.sl 3) (.box 173 (.agg (.cons (.mat 30 42 (.leaf 3)) (.cons (.own 42 (.leaf 3)) (.cons (.own 42 (.leaf 3)) (.cons (.dat (.leaf 3)) (.cons (.own 3 (.int .i64)) (.one (.own 3 (.int .i64))))))))))]⟩)]⟩ .no) .no)) (.two (.two .no (.two (.cut ⟨⟨[1, 3, 37], [.fld (.sl 3) 0, .fld (.sl 3) 1, .fld (.sl 3) 2, .fld (.sl 3) 6, .fld (.sl 3) 7], [.s 38 (.dat (.int .i64)), .l (.sl 3) (.box 173 (.agg (.cons (.mat 30 42 (.leaf 3)) (.cons (.own 42 (.leaf 3)) (.cons (.own 42 (.leaf 3)) (.cons (.dat (.leaf 3)) (.cons (.own 3 (.int .i64)) (.one (.own 3 (.int .i64))))))))))]⟩, [(.exit 2, ⟨[3], [.fld (.sl 3) 0, .fld (.sl 3) 1, .fld (.sl 3) 2, .fld (.sl 3) 6, .fld (.sl 3) 7], [.l (.sl 3) (.box 173 (.agg (.cons (.mat 30 42 (.leaf 3)) (.cons (.own 42 (.leaf 3)) (.cons (.own 42 (.leaf 3)) (.cons (.dat (.leaf 3)) (.cons (.own 3 (.int .i64)) (.one (.own 3 (.int .i64))))))))))]⟩)]⟩ .no) .no)) .no)))), (115, Tryz.f115, .two .no (.two .no (.two .no (.two (.two .no (.two (.cut ⟨⟨[0, 3, 6, 7, 8, 34, 35], [], [.s 9 (.dat (.int .i64)), .s 36 (.dat (.int .i64))]⟩, [(.exit 0, ⟨[0, 3, 6, 7, 8], [], [.s 9 (.dat (.int .i64))]⟩)]⟩ (.two (.two .no (.two .no (.two (.two (.two .no (.two (.cut ⟨⟨[], [], []⟩, [(.norm, ⟨[0, 3, 6, 7, 8, 9, 10, 34, 35, 36], [], [.s 61 (.dat .bool)]⟩)]⟩ .no) (.cut ⟨⟨[], [], []⟩, [(.norm, ⟨[0, 3, 6, 7, 8, 34, 35, 36], [], [.s 9 (.dat (.int .i64))]⟩)]⟩ .no))) .no) .no))) .no)) .no)) (.two .no (.two (.two .no (.two (.unroll 0 .no) .no)) .no)))))), (116, Tryz.f116, .two .no (.two (.cut ⟨⟨[0, 1], [.fld (.sl 0) 0, .fld (.sl 0) 1, .fld (.sl 0) 2, .fld (.sl 0) 6, .fld (.sl 0) 7], [.l (.sl 0) (.box 173 (.agg (.cons (.mat 30 42 (.leaf 3)) (.cons (.own 42 (.leaf 3)) (.cons (.own 42 (.leaf 3)) (.cons (.dat (.leaf 3)) (.cons (.own 3 (.int .i64)) (.one (.own 3 (.int .i64))))))))))]⟩, [(.ret, ⟨[], [.fld (.sl 0) 0, .fld (.sl 0) 1, .fld (.sl 0) 2, .fld (.sl 0) 6, .fld (.sl 0) 7], [.s 1000 (.dat (.int .i64)), .l (.sl 0) (.box 173 (.agg (.cons (.mat 30 42 (.leaf 3)) (.cons (.own 42 (.leaf 3)) (.cons (.own 42 (.leaf 3)) (.cons (.dat (.leaf 3)) (.cons (.own 3 (.int .i64)) (.one (.own 3 (.int .i64))))))))))]⟩)]⟩ .no) .no)), (143, Tryz.f143, .two .no (.two .no (.two (.two .no (.two (.cut ⟨⟨[0, 1, 2, 7, 37], [], [.s 38 (.dat (.int .i64)), .l (.sl 20) (.mat 30 42 (.leaf 3))]⟩, [(.exit 0, ⟨[0, 1, 2, 7], [], [.l (.sl 20) (.mat 30 42 (.leaf 3))]⟩)]⟩ .no) .no)) (.two .no (.two .no (.two (.two .no (.two (.cut ⟨⟨[0, 1, 2, 94], [], [.s 95 (.dat (.int .i64)), .l (.sl 67) (.mat 30 42 (.leaf 3)), .l (.sl 77) (.own 42 (.leaf 3))]⟩, [(.exit 2, ⟨[0, 1, 2], [], [.l (.sl 67) (.mat 30 42 (.leaf 3)), .l (.sl 77) (.own 42 (.leaf 3))]⟩)]⟩ (.two (.two .no (.two .no (.two (.cut ⟨⟨[], [], []⟩, [(.norm, ⟨[0, 1, 2, 94, 95], [], [.l (.fld (.sl 0) 0) (.mat 30 42 (.leaf 3)), .l (.fld (.sl 0) 1) (.own 42 (.leaf 3))]⟩)]⟩ (.two (.two .no (.two (.two (.cut ⟨⟨[], [], []⟩, [(.norm, ⟨[0, 1, 2, 10, 94, 95], [], [.s 114 (.dat .bool)]⟩)]⟩ .no) .no) .no)) .no)) .no))) .no)) .no)) .no)))))), (148, Tryz.f148, .two .no (.two .no (.two (.two .no (.two (.cut ⟨⟨[0, 9, 10], [], [.s 3 (.dat (.int .i64)), .s 11 (.dat (.int .i64))]⟩, [(.exit 0, ⟨[], [], [.s 3 (.dat (.int .i64))]⟩)]⟩ (.two (.two .no (.two .no (.two (.two (.two .no (.two (.cut ⟨⟨[], [], []⟩, [(.norm, ⟨[0, 3, 4, 9, 10, 11], [], [.s 40 (.dat .bool)]⟩)]⟩ .no) (.cut ⟨⟨[], [], []⟩, [(.norm, ⟨[0, 9, 10, 11], [], [.s 3 (.dat (.int .i64))]⟩)]⟩ .no))) .no) .no))) .no)) .no)) .no))), (149, Tryz.f149, .two .no (.two .no (.two .no (.two (.two .no (.two (.cut ⟨⟨[0, 1, 2, 8, 17], [], [.s 7 (.dat (.int .i64)), .s 18 (.dat (.int .i64)), .l (.sl 8) (.box 42 (.dat (.leaf 3)))]⟩, [(.exit 0, ⟨[], [], [.s 7 (.dat (.int .i64))]⟩)]⟩ (.two (.two .no (.two .no (.two (.cut ⟨⟨[], [], []⟩, [(.norm, ⟨[0, 1, 2, 8, 17, 18], [], [.s 7 (.dat (.int .i64)), .l (.sl 8) (.box 42 (.dat (.leaf 3)))]⟩)]⟩ (.two (.two .no (.two .no (.two .no (.two .no (.two (.two .no (.cut ⟨⟨[], [], []⟩, [(.norm, ⟨[0, 1, 2, 7, 8, 9, 10, 17, 18], [], [.s 12 (.dat (.int .i64))]⟩)]⟩ .no)) (.two (.cut ⟨⟨[], [], []⟩, [(.norm, ⟨[0, 1, 2, 7, 8, 9, 10, 17, 18], [], [.s 110 (.dat .bool)]⟩)]⟩ .no) (.cut ⟨⟨[], [], []⟩, [(.norm, ⟨[0, 1, 2, 8, 17, 18], [], [.s 7 (.dat (.int .i64)), .l (.sl 8) (.box 42 (.dat (.leaf 3)))]⟩)]⟩ .no))))))) .no)) .no))) .no)) .no)) .no)))), (176, Tryz.f176, .sel 1 (.two .no (.two (.two .no (.two (.cut ⟨⟨[0, 1, 2, 3, 8, 15], [], [.s 16 (.dat (.int .i64)), .l (.fld (.sl 0) 0) (.agg (.mat 30 42 (.leaf 3)))]⟩, [(.exit 0, ⟨[0, 1, 2, 3, 8], [], [.l (.fld (.sl 0) 0) (.agg (.mat 30 42 (.leaf 3)))]⟩)]⟩ .no) .no)) .no)) (.two .no (.two (.two .no (.two (.cut ⟨⟨[0, 1, 2, 3, 8, 15], [], [.s 16 (.dat (.int .i64)), .l (.sl 1) (.own 42 (.leaf 3))]⟩, [(.exit 0, ⟨[0, 1, 2, 3, 8], [], [.l (.sl 1) (.own 42 (.leaf 3))]⟩)]⟩ .no) .no)) .no)))]) ⟨⟨Tryz.func114, fun _ _ => by kernel_rfl⟩, ⟨Tryz.func115, fun _ _ => by kernel_rfl⟩, ⟨Tryz.func116, fun _ _ => by kernel_rfl⟩, ⟨Tryz.func143, fun _ _ => by kernel_rfl⟩, ⟨Tryz.func148, fun _ _ => by kernel_rfl⟩, ⟨Tryz.func149, fun _ _ => by kernel_rfl⟩, ⟨Tryz.func176, fun _ _ => by kernel_rfl⟩, trivial⟩ (ann := (.two .no (.two .no (.two .no (.two .no (.two .no (.two (.cut ⟨⟨[], [], []⟩, [(.norm, ⟨[2, 3, 4, 6], [], [.s 5 (.dat (.ptr (.pair (.slice (.slice (.leaf 3))) (.pair (.slice (.leaf 3)) (.pair (.slice (.leaf 3)) (.pair (.leaf 3) (.pair (.slice (.int .i64)) (.slice (.int .i64))))))))), .s 9 (.dat (.int .i64))]⟩)]⟩ .no) (.two .no (.two .no (.two (.two .no (.two .no (.cut ⟨⟨[], [], []⟩, [(.norm, ⟨[2, 3, 5, 6, 9, 10], [], [.l (.sl 10) (.own 42 (.leaf 3))]⟩)]⟩ .no))) (.two (.two .no (.two (.unroll 0 .no) .no)) .no))))))))))) Tryz.func84 (fun _ _ => by kernel_rfl) rfl (fun v vals x z ha hz => (Z2u x).trans hz) (hq := ⟨Zhz, trivial⟩)
end Go.Eng
set_option maxRecDepth 100000
set_option maxHeartbeats 4000000
namespace Go.Eng
open Go.Proofs Go.RowKit
def ZMl:FuncId×Con:=(37,⟨[.pair (.slice (.slice (.leaf 3))) (.pair (.slice (.leaf 3)) (.slice (.leaf 3)))],[.pair (.int .i64) (.pair (.leaf 3) (.pair (.slice (.leaf 3)) (.pair (.slice (.leaf 3)) (.slice (.leaf 3))))),.int .i64],fun p=>Zkq p⟩)
theorem ZAy (p:(List (List Rat))×(List Rat)×(List Rat)):Zk ⟨Tryz.prog,[(38,0),(40,2),(42,3),(47,1),(49,4)],[Zkh,Z9l],[],[],[],[],[]⟩ [] Tryz.f37 .no [.pair (.slice (.slice (.leaf 3))) (.pair (.slice (.leaf 3)) (.slice (.leaf 3)))] [.pair (.int .i64) (.pair (.leaf 3) (.pair (.slice (.leaf 3)) (.pair (.slice (.leaf 3)) (.slice (.leaf 3))))),.int .i64] (p)=Zkq p:=by kernel_rfl
theorem ZYx:Zj Tryz.prog ZMl.1 ZMl.2:=Zm (C:=⟨Tryz.prog,[(38,0),(40,2),(42,3),(47,1),(49,4)],[Zkh,Z9l],[],[],[],[],[]⟩) ⟨ZYr,Zfz,trivial⟩ trivial trivial trivial (inl:=[]) trivial (ann:=.no) Tryz.func37 (fun _ _=>by kernel_rfl) rfl (fun v vals x z ha hz=>(ZAy x).trans hz)
end Go.Eng
set_option maxRecDepth 100000
set_option maxHeartbeats 4000000
namespace Go.Eng
open Go.Proofs Go.RowKit
def Zfi:FuncId×Con:=(45,⟨[.slice (.leaf 3),.slice (.leaf 3)],[.leaf 3],fun p=>ZNg p.1 p.2⟩)
theorem ldot_i (x : List Rat) (y : List Rat) : Zk ⟨Tryz.prog, [(38, 0), (40, 2), (42, 3), (47, 1), (49, 4)], [ZCb, Z6d, Z4c], [], [], [], [((42, "Add"), 215), ((42, "Mul"), 219)], []⟩ [] Tryz.f45 (.two .no (.two .no (.two (.two .no (.two (.cut ⟨⟨[0, 1, 4, 5, 9], [], [.s 10 (.dat (.int .i64)), .l (.sl 5) (.box 42 (.dat (.leaf 3)))]⟩, [(.exit 0, ⟨[4, 5], [], [.l (.sl 5) (.box 42 (.dat (.leaf 3)))]⟩)]⟩ .no) .no)) .no))) [.slice (.leaf 3), .slice (.leaf 3)] [.leaf 3] (x, y) = ZNg x y := by kernel_rfl
theorem Z6q : Zj Tryz.prog Zfi.1 Zfi.2 := Zm (C := ⟨Tryz.prog, [(38, 0), (40, 2), (42, 3), (47, 1), (49, 4)], [ZCb, Z6d, Z4c], [], [], [], [((42, "Add"), 215), ((42, "Mul"), 219)], []⟩) ⟨Zeg, Zpn, Z7i, trivial⟩ trivial trivial ⟨Z7o, ZSi, trivial⟩ (inl := []) trivial (ann := (.two .no (.two .no (.two (.two .no (.two (.cut ⟨⟨[0, 1, 4, 5, 9], [], [.s 10 (.dat (.int .i64)), .l (.sl 5) (.box 42 (.dat (.leaf 3)))]⟩, [(.exit 0, ⟨[4, 5], [], [.l (.sl 5) (.box 42 (.dat (.leaf 3)))]⟩)]⟩ .no) .no)) .no)))) Tryz.func45 (fun _ _ => by kernel_rfl) rfl (fun v vals x z ha hz => (ldot_i x.1 x.2).trans hz)
end Go.Eng
set_option maxRecDepth 100000
set_option maxHeartbeats 4000000
namespace Go.Eng
open Go.Proofs Go.RowKit
def Zah:FuncId×Con:=(76,⟨[.slice (.slice (.leaf 3)),.slice (.leaf 3)],[.slice (.leaf 3)],fun p=>ZDm p.1 p.2⟩)
theorem Zmx (m:List (List Rat)) (x:List Rat):Zk ⟨Tryz.prog,[(38,0),(40,2),(42,3),(47,1),(49,4)],[Zfi],[],[],[],[],[]⟩ [] Tryz.f76 (.two .no (.two .no (.two (.two .no (.two (.cut ⟨⟨[1,8,9],[],[.s 5 (.own 42 (.leaf 3)),.s 10 (.dat (.int .i64))]⟩,[(.exit 0,⟨[],[],[.s 5 (.own 42 (.leaf 3))]⟩)]⟩ .no) .no)) .no))) [.slice (.slice (.leaf 3)),.slice (.leaf 3)] [.slice (.leaf 3)] (m,x)=ZDm m x:=by kernel_rfl
theorem Z5q:Zj Tryz.prog Zah.1 Zah.2:=Zm (C:=⟨Tryz.prog,[(38,0),(40,2),(42,3),(47,1),(49,4)],[Zfi],[],[],[],[],[]⟩) ⟨Z6q,trivial⟩ trivial trivial trivial (inl:=[]) trivial (ann:=(.two .no (.two .no (.two (.two .no (.two (.cut ⟨⟨[1,8,9],[],[.s 5 (.own 42 (.leaf 3)),.s 10 (.dat (.int .i64))]⟩,[(.exit 0,⟨[],[],[.s 5 (.own 42 (.leaf 3))]⟩)]⟩ .no) .no)) .no)))) Tryz.func76 (fun _ _=>by kernel_rfl) rfl (fun v vals x z ha hz=>(Zmx x.1 x.2).trans hz)
end Go.Eng
set_option maxRecDepth 100000
set_option maxHeartbeats 4000000
namespace Go.Eng
open Go.Proofs Go.RowKit
def Z8f:FuncId×Con:=(88,⟨[.slice (.leaf 3)],[.bool],fun p=>Zlg p⟩)
theorem lnone_i (x : List Rat) : Zk ⟨Tryz.prog, [(38, 0), (40, 2), (42, 3), (47, 1), (49, 4)], [Z9d], [], [], [], [((42, "Sign"), 173)], []⟩ [(124, Tryz.f124, .no), (125, Tryz.f125, .no), (144, Tryz.f144, .cut ⟨⟨[], [], []⟩, [(.ret, ⟨[], [], [.s 1000 (.dat (.int .i64))]⟩)]⟩ (.two .no (.two (.two .no (.two (.cut ⟨⟨[0, 1, 7], [], [.s 8 (.dat (.int .i64))]⟩, [(.exit 0, ⟨[], [], []⟩), (.ret, ⟨[], [], [.s 1000 (.dat (.int .i64))]⟩)]⟩ .no) .no)) .no)))] Tryz.f88 .no [.slice (.leaf 3)] [.bool] (x) = Zlg x := by kernel_rfl
theorem ZUo : Zj Tryz.prog Z8f.1 Z8f.2 := Zm (C := ⟨Tryz.prog, [(38, 0), (40, 2), (42, 3), (47, 1), (49, 4)], [Z9d], [], [], [], [((42, "Sign"), 173)], []⟩) ⟨Zqn, trivial⟩ trivial trivial ⟨ZJp, trivial⟩ (inl := [(124, Tryz.f124, .no), (125, Tryz.f125, .no), (144, Tryz.f144, .cut ⟨⟨[], [], []⟩, [(.ret, ⟨[], [], [.s 1000 (.dat (.int .i64))]⟩)]⟩ (.two .no (.two (.two .no (.two (.cut ⟨⟨[0, 1, 7], [], [.s 8 (.dat (.int .i64))]⟩, [(.exit 0, ⟨[], [], []⟩), (.ret, ⟨[], [], [.s 1000 (.dat (.int .i64))]⟩)]⟩ .no) .no)) .no)))]) ⟨⟨Tryz.func124, fun _ _ => by kernel_rfl⟩, ⟨Tryz.func125, fun _ _ => by kernel_rfl⟩, ⟨Tryz.func144, fun _ _ => by kernel_rfl⟩, trivial⟩ (ann := .no) Tryz.func88 (fun _ _ => by kernel_rfl) rfl (fun v vals x z ha hz => (lnone_i x).trans hz)
end Go.Eng
set_option maxRecDepth 100000
set_option maxHeartbeats 4000000
namespace Go.Eng
open Go.Proofs Go.RowKit
def Z3f:FuncId×Con:=(90,⟨[.slice (.leaf 3),.slice (.leaf 3)],[.bool],fun p=>ZSj p.1 p.2⟩)
theorem Z8v (x : List Rat) (y : List Rat) : Zk ⟨Tryz.prog, [(38, 0), (40, 2), (42, 3), (47, 1), (49, 4)], [ZRh], [], [], [], [((42, "Cmp"), 216)], []⟩ [] Tryz.f90 (.two .no (.two (.two .no (.two (.cut ⟨⟨[0, 1, 7], [], [.s 8 (.dat (.int .i64))]⟩, [(.exit 0, ⟨[], [], []⟩), (.ret, ⟨[], [], [.s 1000 (.dat .bool)]⟩)]⟩ .no) .no)) .no)) [.slice (.leaf 3), .slice (.leaf 3)] [.bool] (x, y) = ZSj x y := by kernel_rfl
theorem ZAn : Zj Tryz.prog Z3f.1 Z3f.2 := Zm (C := ⟨Tryz.prog, [(38, 0), (40, 2), (42, 3), (47, 1), (49, 4)], [ZRh], [], [], [], [((42, "Cmp"), 216)], []⟩) ⟨Zss, trivial⟩ trivial trivial ⟨Zhr, trivial⟩ (inl := []) trivial (ann := (.two .no (.two (.two .no (.two (.cut ⟨⟨[0, 1, 7], [], [.s 8 (.dat (.int .i64))]⟩, [(.exit 0, ⟨[], [], []⟩), (.ret, ⟨[], [], [.s 1000 (.dat .bool)]⟩)]⟩ .no) .no)) .no))) Tryz.func90 (fun _ _ => by kernel_rfl) rfl (fun v vals x z ha hz => (Z8v x.1 x.2).trans hz)
end Go.Eng
set_option maxRecDepth 100000
set_option maxHeartbeats 4000000
namespace Go.Eng
open Go.Proofs Go.RowKit
def Zim:FuncId×Con:=(86,⟨[.pair (.slice (.slice (.leaf 3))) (.pair (.slice (.leaf 3)) (.slice (.leaf 3))),.slice (.leaf 3)],[.bool],fun p=>ZNn p.1 p.2⟩)
theorem Z7v (p:(List (List Rat))×(List Rat)×(List Rat)) (x:List Rat):Zk ⟨Tryz.prog,[(38,0),(40,2),(42,3),(47,1),(49,4)],[Zah,Z8f,Z3f],[],[],[],[],[]⟩ [] Tryz.f86 (.two .no (.two (.cut ⟨⟨[],[],[]⟩,[(.norm,⟨[],[],[.s 4 (.dat .bool)]⟩)]⟩ .no) .no)) [.pair (.slice (.slice (.leaf 3))) (.pair (.slice (.leaf 3)) (.slice (.leaf 3))),.slice (.leaf 3)] [.bool] (p,x)=ZNn p x:=by kernel_rfl
theorem ZQw:Zj Tryz.prog Zim.1 Zim.2:=Zm (C:=⟨Tryz.prog,[(38,0),(40,2),(42,3),(47,1),(49,4)],[Zah,Z8f,Z3f],[],[],[],[],[]⟩) ⟨Z5q,ZUo,ZAn,trivial⟩ trivial trivial trivial (inl:=[]) trivial (ann:=(.two .no (.two (.cut ⟨⟨[],[],[]⟩,[(.norm,⟨[],[],[.s 4 (.dat .bool)]⟩)]⟩ .no) .no))) Tryz.func86 (fun _ _=>by kernel_rfl) rfl (fun v vals x z ha hz=>(Z7v x.1 x.2).trans hz)
end Go.Eng
set_option maxRecDepth 100000
set_option maxHeartbeats 4000000
namespace Go.Eng
open Go.Proofs Go.RowKit
def ZCh:FuncId×Con:=(89,⟨[.pair (.slice (.slice (.leaf 3))) (.pair (.slice (.leaf 3)) (.slice (.leaf 3))),.slice (.leaf 3)],[.slice (.leaf 3)],fun p=>ZYm p.1 p.2⟩)
theorem psums_i (p : (List (List Rat)) × (List Rat) × (List Rat)) (y : List Rat) : Zk ⟨Tryz.prog, [(38, 0), (40, 2), (42, 3), (47, 1), (49, 4)], [Z6d, Z4c], [], [Zwc], [], [((42, "Add"), 215), ((42, "Mul"), 219)], []⟩ [] Tryz.f89 (.two .no (.two .no (.two (.two .no (.two (.cut ⟨⟨[1, 5, 15, 16], [], [.s 17 (.dat (.int .i64)), .l (.sl 5) (.own 42 (.leaf 3))]⟩, [(.exit 0, ⟨[5], [], [.l (.sl 5) (.own 42 (.leaf 3))]⟩)]⟩ (.two (.two .no (.two .no (.two (.two (.two .no (.two .no (.two (.cut ⟨⟨[1, 5, 6, 15, 16, 17, 22, 23], [], [.s 24 (.dat (.int .i64)), .l (.sl 5) (.own 42 (.leaf 3))]⟩, [(.exit 2, ⟨[1, 5, 15, 16, 17], [], [.l (.sl 5) (.own 42 (.leaf 3))]⟩)]⟩ .no) .no))) .no) .no))) .no)) .no)) .no))) [.pair (.slice (.slice (.leaf 3))) (.pair (.slice (.leaf 3)) (.slice (.leaf 3))), .slice (.leaf 3)] [.slice (.leaf 3)] (p, y) = ZYm p y := by kernel_rfl
theorem ZJr : Zj Tryz.prog ZCh.1 ZCh.2 := Zm (C := ⟨Tryz.prog, [(38, 0), (40, 2), (42, 3), (47, 1), (49, 4)], [Z6d, Z4c], [], [Zwc], [], [((42, "Add"), 215), ((42, "Mul"), 219)], []⟩) ⟨Zpn, Z7i, trivial⟩ ⟨Zvi, trivial⟩ trivial ⟨Z7o, ZSi, trivial⟩ (inl := []) trivial (ann := (.two .no (.two .no (.two (.two .no (.two (.cut ⟨⟨[1, 5, 15, 16], [], [.s 17 (.dat (.int .i64)), .l (.sl 5) (.own 42 (.leaf 3))]⟩, [(.exit 0, ⟨[5], [], [.l (.sl 5) (.own 42 (.leaf 3))]⟩)]⟩ (.two (.two .no (.two .no (.two (.two (.two .no (.two .no (.two (.cut ⟨⟨[1, 5, 6, 15, 16, 17, 22, 23], [], [.s 24 (.dat (.int .i64)), .l (.sl 5) (.own 42 (.leaf 3))]⟩, [(.exit 2, ⟨[1, 5, 15, 16, 17], [], [.l (.sl 5) (.own 42 (.leaf 3))]⟩)]⟩ .no) .no))) .no) .no))) .no)) .no)) .no)))) Tryz.func89 (fun _ _ => by kernel_rfl) rfl (fun v vals x z ha hz => (psums_i x.1 x.2).trans hz)
end Go.Eng
set_option maxRecDepth 100000
set_option maxHeartbeats 4000000
namespace Go.Eng
open Go.Proofs Go.RowKit
def Zjn:FuncId×Con:=(87,⟨[.pair (.slice (.slice (.leaf 3))) (.pair (.slice (.leaf 3)) (.slice (.leaf 3))),.slice (.leaf 3)],[.bool],fun p=>Zzo p.1 p.2⟩)
theorem pdual_i (p:(List (List Rat))×(List Rat)×(List Rat)) (y:List Rat):Zk ⟨Tryz.prog,[(38,0),(40,2),(42,3),(47,1),(49,4)],[Z8f,ZCh,Z3f],[],[],[],[],[]⟩ [] Tryz.f87 (.two .no (.two (.cut ⟨⟨[],[],[]⟩,[(.norm,⟨[],[],[.s 4 (.dat .bool)]⟩)]⟩ .no) .no)) [.pair (.slice (.slice (.leaf 3))) (.pair (.slice (.leaf 3)) (.slice (.leaf 3))),.slice (.leaf 3)] [.bool] (p,y)=Zzo p y:=by kernel_rfl
theorem pdual_k:Zj Tryz.prog Zjn.1 Zjn.2:=Zm (C:=⟨Tryz.prog,[(38,0),(40,2),(42,3),(47,1),(49,4)],[Z8f,ZCh,Z3f],[],[],[],[],[]⟩) ⟨ZUo,ZJr,ZAn,trivial⟩ trivial trivial trivial (inl:=[]) trivial (ann:=(.two .no (.two (.cut ⟨⟨[],[],[]⟩,[(.norm,⟨[],[],[.s 4 (.dat .bool)]⟩)]⟩ .no) .no))) Tryz.func87 (fun _ _=>by kernel_rfl) rfl (fun v vals x z ha hz=>(pdual_i x.1 x.2).trans hz)
end Go.Eng
set_option maxRecDepth 100000
set_option maxHeartbeats 4000000
namespace Go.Eng
open Go.Proofs Go.RowKit
def Zam:FuncId×Con:=(223,⟨[.leaf 3,.leaf 3],[.bool],fun p=>Zbk p.1 p.2⟩)
theorem qsame_i (x:Rat) (y:Rat):Zk ⟨Tryz.prog,[(38,0),(40,2),(42,3)],[Zli],[],[],[],[],[]⟩ [] Tryz.f223 (.two .no (.two (.cut ⟨⟨[],[],[]⟩,[(.norm,⟨[],[],[.s 4 (.dat .bool)]⟩)]⟩ .no) .no)) [.leaf 3,.leaf 3] [.bool] (x,y)=Zgp x y:=by kernel_rfl
theorem qsame_k:Zj Tryz.prog Zam.1 Zam.2:=Zm (C:=⟨Tryz.prog,[(38,0),(40,2),(42,3)],[Zli],[],[],[],[],[]⟩) ⟨cmp_k,trivial⟩ trivial trivial trivial (inl:=[]) trivial (ann:=.two .no (.two (.cut ⟨⟨[],[],[]⟩,[(.norm,⟨[],[],[.s 4 (.dat .bool)]⟩)]⟩ .no) .no)) Tryz.func223 (fun _ _=>by kernel_rfl) rfl fun v vals x z ha hz=>(qsame_i x.1 x.2).trans (Z2x hz)
end Go.Eng
set_option maxRecDepth 100000
set_option maxHeartbeats 4000000
namespace Go.Eng
open Go.Proofs Go.RowKit
def Zil:FuncId×Con:=(39,⟨[.pair (.slice (.slice (.leaf 3))) (.pair (.slice (.leaf 3)) (.slice (.leaf 3))),.pair (.int .i64) (.pair (.leaf 3) (.pair (.slice (.leaf 3)) (.pair (.slice (.leaf 3)) (.slice (.leaf 3)))))],[.bool],fun p=>ZJo p.1 p.2⟩)
theorem ZVu (p : (List (List Rat)) × (List Rat) × (List Rat)) (a : Int × Rat × (List Rat) × (List Rat) × (List Rat)) : Zk ⟨Tryz.prog, [(38, 0), (40, 2), (42, 3), (47, 1), (49, 4)], [Zfi, Zah, Zkh, Zim, Zjn, Z8f, ZCh, Z3f, ZUc, Z9d, Zam], [], [Zwc], [], [((42, "Same"), 223), ((42, "Sign"), 173), ((42, "Zero"), 172)], []⟩ [] Tryz.f39 (.two .no (.two .no (.two (.cut ⟨⟨[], [], []⟩, [(.norm, ⟨[2, 3], [], [.s 5 (.dat .bool)]⟩)]⟩ .no) (.two (.two .no (.two (.two .no (.two (.two (.cut ⟨⟨[], [], []⟩, [(.norm, ⟨[], [], [.s 4 (.dat .bool)]⟩)]⟩ .no) .no) (.two .no (.two (.two (.cut ⟨⟨[], [], []⟩, [(.norm, ⟨[], [], [.s 4 (.dat .bool)]⟩)]⟩ .no) .no) (.two .no (.two (.two (.two (.cut ⟨⟨[], [], []⟩, [(.norm, ⟨[2, 3], [], [.s 135 (.dat .bool)]⟩)]⟩ .no) .no) (.two (.cut ⟨⟨[], [], []⟩, [(.norm, ⟨[], [], [.s 4 (.dat .bool)]⟩)]⟩ .no) .no)) .no)))))) .no)) .no)))) [.pair (.slice (.slice (.leaf 3))) (.pair (.slice (.leaf 3)) (.slice (.leaf 3))), .pair (.int .i64) (.pair (.leaf 3) (.pair (.slice (.leaf 3)) (.pair (.slice (.leaf 3)) (.slice (.leaf 3)))))] [.bool] (p, a) = ZJo p a := by kernel_rfl
theorem Zqx : Zj Tryz.prog Zil.1 Zil.2 := Zm (C := ⟨Tryz.prog, [(38, 0), (40, 2), (42, 3), (47, 1), (49, 4)], [Zfi, Zah, Zkh, Zim, Zjn, Z8f, ZCh, Z3f, ZUc, Z9d, Zam], [], [Zwc], [], [((42, "Same"), 223), ((42, "Sign"), 173), ((42, "Zero"), 172)], []⟩) ⟨Z6q, Z5q, ZYr, ZQw, pdual_k, ZUo, ZJr, ZAn, ZOi, Zqn, qsame_k, trivial⟩ ⟨Zvi, trivial⟩ trivial ⟨Zew, ZJp, Zll, trivial⟩ (inl := []) trivial (ann := (.two .no (.two .no (.two (.cut ⟨⟨[], [], []⟩, [(.norm, ⟨[2, 3], [], [.s 5 (.dat .bool)]⟩)]⟩ .no) (.two (.two .no (.two (.two .no (.two (.two (.cut ⟨⟨[], [], []⟩, [(.norm, ⟨[], [], [.s 4 (.dat .bool)]⟩)]⟩ .no) .no) (.two .no (.two (.two (.cut ⟨⟨[], [], []⟩, [(.norm, ⟨[], [], [.s 4 (.dat .bool)]⟩)]⟩ .no) .no) (.two .no (.two (.two (.two (.cut ⟨⟨[], [], []⟩, [(.norm, ⟨[2, 3], [], [.s 135 (.dat .bool)]⟩)]⟩ .no) .no) (.two (.cut ⟨⟨[], [], []⟩, [(.norm, ⟨[], [], [.s 4 (.dat .bool)]⟩)]⟩ .no) .no)) .no)))))) .no)) .no))))) Tryz.func39 (fun _ _ => by kernel_rfl) rfl (fun v vals x z ha hz => (ZVu x.1 x.2).trans hz)
end Go.Eng
set_option maxRecDepth 100000
set_option maxHeartbeats 4000000
namespace Go.Eng
open Go.Proofs Go.RowKit
def Znn:FuncId×Con:=(7,⟨[],[.bool],fun _=>Zgi⟩)
theorem Zrx  : Zk ⟨Tryz.prog,[(38,0),(40,2),(42,3),(47,1),(49,4)],[ZYf,ZHh,ZNh,Zbn,Zen,ZMl,ZLh,Zil],[],[],[],[],[]⟩ [] Tryz.f7 (.two .no (.two .no (.two .no (.two .no (.two .no (.two .no (.two .no (.two .no (.two (.cut ⟨⟨[],[],[]⟩,[(.norm,⟨[],[],[.s 0 (.dat .bool)]⟩)]⟩ .no) .no))))))))) [] [.bool] ()=Zgi  := by kernel_rfl
theorem ZEx:Zj Tryz.prog Znn.1 Znn.2:=Zm (C:=⟨Tryz.prog,[(38,0),(40,2),(42,3),(47,1),(49,4)],[ZYf,ZHh,ZNh,Zbn,Zen,ZMl,ZLh,Zil],[],[],[],[],[]⟩) ⟨Zco,ZFr,Zxr,Ziz,Zty,ZYx,ZGt,Zqx,trivial⟩ trivial trivial trivial (inl:=[]) trivial (ann:=(.two .no (.two .no (.two .no (.two .no (.two .no (.two .no (.two .no (.two .no (.two (.cut ⟨⟨[],[],[]⟩,[(.norm,⟨[],[],[.s 0 (.dat .bool)]⟩)]⟩ .no) .no)))))))))) Tryz.func7 (fun _ _=>by kernel_rfl) rfl (fun v vals x z ha hz=>(Zrx ).trans hz)
end Go.Eng
set_option maxRecDepth 100000
set_option maxHeartbeats 4000000
namespace Go.Eng
open Go.Proofs Go.RowKit
def Z1f:FuncId×Con:=(57,⟨[.slice (.slice (.leaf 3))],[.bool],fun p=>ZLd p⟩)
theorem ZUw (m:List (List Rat)):Zk ⟨Tryz.prog,[(38,0),(40,2),(42,3),(47,1),(49,4)],[Zye,Z1d],[],[],[],[],[]⟩ [] Tryz.f57 (.two .no (.two (.cut ⟨⟨[],[],[]⟩,[(.norm,⟨[],[],[.s 2 (.dat .bool)]⟩)]⟩ .no) .no)) [.slice (.slice (.leaf 3))] [.bool] (m)=ZLd m:=by kernel_rfl
theorem Z6p:Zj Tryz.prog Z1f.1 Z1f.2:=Zm (C:=⟨Tryz.prog,[(38,0),(40,2),(42,3),(47,1),(49,4)],[Zye,Z1d],[],[],[],[],[]⟩) ⟨Zwl,ZVl,trivial⟩ trivial trivial trivial (inl:=[]) trivial (ann:=(.two .no (.two (.cut ⟨⟨[],[],[]⟩,[(.norm,⟨[],[],[.s 2 (.dat .bool)]⟩)]⟩ .no) .no))) Tryz.func57 (fun _ _=>by kernel_rfl) rfl (fun v vals x z ha hz=>(ZUw x).trans hz)
end Go.Eng
set_option maxRecDepth 100000
set_option maxHeartbeats 4000000
namespace Go.Eng
open Go.Proofs Go.RowKit
def Z0k:FuncId×Con:=(15,⟨[.slice (.slice (.leaf 3))],[.leaf 3,.int .i64],fun p=>Zng p⟩)
theorem Det_i (m:List (List Rat)):Zk ⟨Tryz.prog,[(38,0),(40,2),(42,3),(47,1),(49,4)],[Z1f,Z3d],[],[],[],[],[]⟩ [] Tryz.f15 .no [.slice (.slice (.leaf 3))] [.leaf 3,.int .i64] (m)=Zng m:=by kernel_rfl
theorem Det_k:Zj Tryz.prog Z0k.1 Z0k.2:=Zm (C:=⟨Tryz.prog,[(38,0),(40,2),(42,3),(47,1),(49,4)],[Z1f,Z3d],[],[],[],[],[]⟩) ⟨Z6p,Zvk,trivial⟩ trivial trivial trivial (inl:=[]) trivial (ann:=.no) Tryz.func15 (fun _ _=>by kernel_rfl) rfl (fun v vals x z ha hz=>(Det_i x).trans hz)
end Go.Eng
set_option maxRecDepth 100000
set_option maxHeartbeats 4000000
namespace Go.Eng
open Go.Proofs Go.RowKit
def ZBf:FuncId×Con:=(53,⟨[],[.pair (.pair (.leaf 4) (.pair (.leaf 4) (.pair (.leaf 4) (.leaf 4)))) (.pair (.leaf 4) (.pair (.leaf 4) (.pair (.leaf 4) (.leaf 4))))],fun _=>Zhg⟩)
theorem Z6u  : Zk ⟨Tryz.prog,[(38,0),(40,2),(42,3),(47,1),(49,4)],[ZYc,Z3a],[],[],[],[],[]⟩ [] Tryz.f53 .no [] [.pair (.pair (.leaf 4) (.pair (.leaf 4) (.pair (.leaf 4) (.leaf 4)))) (.pair (.leaf 4) (.pair (.leaf 4) (.pair (.leaf 4) (.leaf 4))))] ()=Zhg  := by kernel_rfl
theorem ZVn:Zj Tryz.prog ZBf.1 ZBf.2:=Zm (C:=⟨Tryz.prog,[(38,0),(40,2),(42,3),(47,1),(49,4)],[ZYc,Z3a],[],[],[],[],[]⟩) ⟨ZHj,Zae,trivial⟩ trivial trivial trivial (inl:=[]) trivial (ann:=.no) Tryz.func53 (fun _ _=>by kernel_rfl) rfl (fun v vals x z ha hz=>(Z6u ).trans hz)
end Go.Eng
set_option maxRecDepth 100000
set_option maxHeartbeats 4000000
namespace Go.Eng
open Go.Proofs Go.RowKit
def Z3h:FuncId×Con:=(46,⟨[.slice (.slice (.pair (.pair (.leaf 4) (.pair (.leaf 4) (.pair (.leaf 4) (.leaf 4)))) (.pair (.leaf 4) (.pair (.leaf 4) (.pair (.leaf 4) (.leaf 4))))))],[.bool],fun p=>ZGg p⟩)
theorem Zqw (m:List (List ((Rat×Rat×Rat×Rat)×Rat×Rat×Rat×Rat))):Zk ⟨Tryz.prog,[(38,0),(40,2),(42,3),(47,1),(49,4)],[],[],[],[],[],[]⟩ [] Tryz.f46 (.two .no (.two (.two .no (.two (.cut ⟨⟨[0],[],[.s 3 (.dat (.int .i64))]⟩,[(.exit 0,⟨[0],[],[]⟩),(.ret,⟨[],[],[.s 1000 (.dat .bool)]⟩)]⟩ (.two (.two .no (.two (.two (.two (.cut ⟨⟨[],[],[]⟩,[(.norm,⟨[0,3],[],[.s 27 (.dat .bool)]⟩)]⟩ .no) .no) .no) .no)) .no)) .no)) .no)) [.slice (.slice (.pair (.pair (.leaf 4) (.pair (.leaf 4) (.pair (.leaf 4) (.leaf 4)))) (.pair (.leaf 4) (.pair (.leaf 4) (.pair (.leaf 4) (.leaf 4))))))] [.bool] (m)=ZGg m:=by kernel_rfl
theorem ZUs:Zj Tryz.prog Z3h.1 Z3h.2:=Zm (C:=⟨Tryz.prog,[(38,0),(40,2),(42,3),(47,1),(49,4)],[],[],[],[],[],[]⟩) trivial trivial trivial trivial (inl:=[]) trivial (ann:=(.two .no (.two (.two .no (.two (.cut ⟨⟨[0],[],[.s 3 (.dat (.int .i64))]⟩,[(.exit 0,⟨[0],[],[]⟩),(.ret,⟨[],[],[.s 1000 (.dat .bool)]⟩)]⟩ (.two (.two .no (.two (.two (.two (.cut ⟨⟨[],[],[]⟩,[(.norm,⟨[0,3],[],[.s 27 (.dat .bool)]⟩)]⟩ .no) .no) .no) .no)) .no)) .no)) .no))) Tryz.func46 (fun _ _=>by kernel_rfl) rfl (fun v vals x z ha hz=>(Zqw x).trans hz)
end Go.Eng
set_option maxRecDepth 100000
set_option maxHeartbeats 4000000
namespace Go.Eng
open Go.Proofs Go.RowKit
def Zmh:FuncId×Con:=(47,⟨[.slice (.slice (.pair (.pair (.leaf 4) (.pair (.leaf 4) (.pair (.leaf 4) (.leaf 4)))) (.pair (.leaf 4) (.pair (.leaf 4) (.pair (.leaf 4) (.leaf 4))))))],[.int .i64],fun p=>Zci p⟩)
theorem Zxx (m:List (List ((Rat×Rat×Rat×Rat)×Rat×Rat×Rat×Rat))):Zk ⟨Tryz.prog,[(38,0),(40,2),(42,3),(47,1),(49,4)],[],[],[],[],[],[]⟩ [] Tryz.f47 .no [.slice (.slice (.pair (.pair (.leaf 4) (.pair (.leaf 4) (.pair (.leaf 4) (.leaf 4)))) (.pair (.leaf 4) (.pair (.leaf 4) (.pair (.leaf 4) (.leaf 4))))))] [.int .i64] (m)=Zci m:=by kernel_rfl
theorem ZKt:Zj Tryz.prog Zmh.1 Zmh.2:=Zm (C:=⟨Tryz.prog,[(38,0),(40,2),(42,3),(47,1),(49,4)],[],[],[],[],[],[]⟩) trivial trivial trivial trivial (inl:=[]) trivial (ann:=.no) Tryz.func47 (fun _ _=>by kernel_rfl) rfl (fun v vals x z ha hz=>(Zxx x).trans hz)
end Go.Eng
set_option maxRecDepth 100000
set_option maxHeartbeats 4000000
namespace Go.Eng
open Go.Proofs Go.RowKit
def Zsf:FuncId×Con:=(59,⟨[.slice (.slice (.pair (.pair (.leaf 4) (.pair (.leaf 4) (.pair (.leaf 4) (.leaf 4)))) (.pair (.leaf 4) (.pair (.leaf 4) (.pair (.leaf 4) (.leaf 4))))))],[.bool],fun p=>ZIc p⟩)
theorem Z1z (m:List (List ((Rat×Rat×Rat×Rat)×Rat×Rat×Rat×Rat))):Zk ⟨Tryz.prog,[(38,0),(40,2),(42,3),(47,1),(49,4)],[Z3h,Zmh],[],[],[],[],[]⟩ [] Tryz.f59 (.two .no (.two (.cut ⟨⟨[],[],[]⟩,[(.norm,⟨[],[],[.s 2 (.dat .bool)]⟩)]⟩ .no) .no)) [.slice (.slice (.pair (.pair (.leaf 4) (.pair (.leaf 4) (.pair (.leaf 4) (.leaf 4)))) (.pair (.leaf 4) (.pair (.leaf 4) (.pair (.leaf 4) (.leaf 4))))))] [.bool] (m)=ZIc m:=by kernel_rfl
theorem ZBo:Zj Tryz.prog Zsf.1 Zsf.2:=Zm (C:=⟨Tryz.prog,[(38,0),(40,2),(42,3),(47,1),(49,4)],[Z3h,Zmh],[],[],[],[],[]⟩) ⟨ZUs,ZKt,trivial⟩ trivial trivial trivial (inl:=[]) trivial (ann:=(.two .no (.two (.cut ⟨⟨[],[],[]⟩,[(.norm,⟨[],[],[.s 2 (.dat .bool)]⟩)]⟩ .no) .no))) Tryz.func59 (fun _ _=>by kernel_rfl) rfl (fun v vals x z ha hz=>(Z1z x).trans hz)
end Go.Eng
set_option maxRecDepth 100000
set_option maxHeartbeats 4000000
namespace Go.Eng
open Go.Proofs Go.RowKit
def Zoi:FuncId×Con:=(60,⟨[],[.pair (.pair (.leaf 4) (.pair (.leaf 4) (.pair (.leaf 4) (.leaf 4)))) (.pair (.leaf 4) (.pair (.leaf 4) (.pair (.leaf 4) (.leaf 4))))],fun _=>Zzh⟩)
theorem rOne2_i  : Zk ⟨Tryz.prog,[(38,0),(40,2),(42,3),(47,1),(49,4)],[ZYc,Z3a],[],[],[],[],[]⟩ [] Tryz.f60 .no [] [.pair (.pair (.leaf 4) (.pair (.leaf 4) (.pair (.leaf 4) (.leaf 4)))) (.pair (.leaf 4) (.pair (.leaf 4) (.pair (.leaf 4) (.leaf 4))))] ()=Zzh  := by kernel_rfl
theorem Zps:Zj Tryz.prog Zoi.1 Zoi.2:=Zm (C:=⟨Tryz.prog,[(38,0),(40,2),(42,3),(47,1),(49,4)],[ZYc,Z3a],[],[],[],[],[]⟩) ⟨ZHj,Zae,trivial⟩ trivial trivial trivial (inl:=[]) trivial (ann:=.no) Tryz.func60 (fun _ _=>by kernel_rfl) rfl (fun v vals x z ha hz=>(rOne2_i ).trans hz)
theorem Z0v {x y z:Rat} (h:Zma x y=some z):Z3o x y=some z:=by
 unfold Zma at h;split at h
 ·rename_i hh;obtain ⟨⟨a1,a2⟩,b1,b2⟩:=hh
  cases h
  unfold Z3o ZXb;have p1:=Zib x.num.natAbs y.num.natAbs;have p3:=Zib x.den y.den;have e1:Zua x.num.natAbs y.num.natAbs=some (x.num.natAbs*y.num.natAbs):=by unfold Zua;rw [if_pos ⟨Zvb (by omega),Zvb (by omega)⟩]
  have e3:Zua x.den y.den=some (x.den*y.den):=by unfold Zua;rw [if_pos ⟨Zvb (by omega),Zvb (by omega)⟩]
  rw [e1,Za,Za,Za,e3,Za];unfold Znb;rw [if_pos ⟨ZQd (by omega),ZQd (by omega),Nat.mul_ne_zero x.den_nz y.den_nz⟩,Za];have e:sgn ((decide (x.num<0)) != (decide (y.num<0))) (x.num.natAbs*y.num.natAbs)=x.num*y.num:=by
   have eN:((x.num.natAbs*y.num.natAbs:Nat):Int)=(x.num.natAbs:Int)*y.num.natAbs:=by simp
   unfold sgn;rw [eN];by_cases h:x.num<0
   ·have hx:(x.num.natAbs:Int) = -x.num:=by omega
    by_cases h2:y.num<0
    ·have hy:(y.num.natAbs:Int) = -y.num:=by omega
     simp [h,h2,hx,hy,Int.neg_mul,Int.mul_neg]
    ·have hy:(y.num.natAbs:Int)=y.num:=by omega
     simp [h,h2,hx,hy,Int.neg_mul,Int.mul_neg]
   ·have hx:(x.num.natAbs:Int)=x.num:=by omega
    by_cases h2:y.num<0
    ·have hy:(y.num.natAbs:Int) = -y.num:=by omega
     simp [h,h2,hx,hy,Int.neg_mul,Int.mul_neg]
    ·have hy:(y.num.natAbs:Int)=y.num:=by omega
     simp [h,h2,hx,hy,Int.neg_mul,Int.mul_neg]
  rw [e,← Rat.mul_def']
 ·cases h
end Go.Eng
set_option maxRecDepth 100000
set_option maxHeartbeats 4000000
namespace Go.Eng
open Go.Proofs Go.RowKit
def Z6m:FuncId×Con:=(136,⟨[.leaf 4,.leaf 4],[.leaf 4],fun p=>Zma p.1 p.2⟩)
theorem rmul_i (x:Rat) (y:Rat):Zk ⟨Tryz.prog,[(47,1),(49,4)],[ZBc,Z7c,ZWd],[],[],[],[],[]⟩ [] Tryz.f136 .no [.leaf 4,.leaf 4] [.leaf 4] (x,y)=Z3o x y:=by kernel_rfl
theorem rmul_k:Zj Tryz.prog Z6m.1 Z6m.2:=Zm (C:=⟨Tryz.prog,[(47,1),(49,4)],[ZBc,Z7c,ZWd],[],[],[],[],[]⟩) ⟨Zxh,ZGj,Z2m,trivial⟩ trivial trivial trivial (inl:=[]) trivial (ann:=.no) Tryz.func136 (fun _ _=>by kernel_rfl) rfl fun v vals x z ha hz=>(rmul_i x.1 x.2).trans (Z0v hz)
end Go.Eng
set_option maxRecDepth 100000
set_option maxHeartbeats 4000000
namespace Go.Eng
open Go.Proofs Go.RowKit
def Zvf:FuncId×Con:=(103,⟨[.pair (.leaf 4) (.pair (.leaf 4) (.pair (.leaf 4) (.leaf 4))),.pair (.leaf 4) (.pair (.leaf 4) (.pair (.leaf 4) (.leaf 4)))],[.pair (.leaf 4) (.pair (.leaf 4) (.pair (.leaf 4) (.leaf 4)))],fun p=>Zrc p.1 p.2⟩)
theorem sMul_i (x:Rat×Rat×Rat×Rat) (y:Rat×Rat×Rat×Rat):Zk ⟨Tryz.prog,[(38,0),(40,2),(42,3),(47,1),(49,4)],[ZCe,Z3a,Z6m,ZSh],[],[],[],[],[]⟩ [] Tryz.f103 (.two .no (.two .no (.two (.two .no (.two (.unroll 5 (.two (.two .no (.two (.two (.two .no (.two (.unroll 5 .no) .no)) .no) .no)) .no)) .no)) .no))) [.pair (.leaf 4) (.pair (.leaf 4) (.pair (.leaf 4) (.leaf 4))),.pair (.leaf 4) (.pair (.leaf 4) (.pair (.leaf 4) (.leaf 4)))] [.pair (.leaf 4) (.pair (.leaf 4) (.pair (.leaf 4) (.leaf 4)))] (x,y)=Zrc x y:=by kernel_rfl
theorem ZKo:Zj Tryz.prog Zvf.1 Zvf.2:=Zm (C:=⟨Tryz.prog,[(38,0),(40,2),(42,3),(47,1),(49,4)],[ZCe,Z3a,Z6m,ZSh],[],[],[],[],[]⟩) ⟨ZIk,Zae,rmul_k,ZWt,trivial⟩ trivial trivial trivial (inl:=[]) trivial (ann:=(.two .no (.two .no (.two (.two .no (.two (.unroll 5 (.two (.two .no (.two (.two (.two .no (.two (.unroll 5 .no) .no)) .no) .no)) .no)) .no)) .no)))) Tryz.func103 (fun _ _=>by kernel_rfl) rfl (fun v vals x z ha hz=>(sMul_i x.1 x.2).trans hz)
end Go.Eng
set_option maxRecDepth 100000
set_option maxHeartbeats 4000000
namespace Go.Eng
open Go.Proofs Go.RowKit
def ZEf:FuncId×Con:=(61,⟨[.pair (.pair (.leaf 4) (.pair (.leaf 4) (.pair (.leaf 4) (.leaf 4)))) (.pair (.leaf 4) (.pair (.leaf 4) (.pair (.leaf 4) (.leaf 4)))),.pair (.pair (.leaf 4) (.pair (.leaf 4) (.pair (.leaf 4) (.leaf 4)))) (.pair (.leaf 4) (.pair (.leaf 4) (.pair (.leaf 4) (.leaf 4))))],[.pair (.pair (.leaf 4) (.pair (.leaf 4) (.pair (.leaf 4) (.leaf 4)))) (.pair (.leaf 4) (.pair (.leaf 4) (.pair (.leaf 4) (.leaf 4))))],fun p=>Zrg p.1 p.2⟩)
theorem wMul_i (x:(Rat×Rat×Rat×Rat)×Rat×Rat×Rat×Rat) (y:(Rat×Rat×Rat×Rat)×Rat×Rat×Rat×Rat):Zk ⟨Tryz.prog,[(38,0),(40,2),(42,3),(47,1),(49,4)],[ZDh,Zvf,Zpe],[],[],[],[],[]⟩ [] Tryz.f61 .no [.pair (.pair (.leaf 4) (.pair (.leaf 4) (.pair (.leaf 4) (.leaf 4)))) (.pair (.leaf 4) (.pair (.leaf 4) (.pair (.leaf 4) (.leaf 4)))),.pair (.pair (.leaf 4) (.pair (.leaf 4) (.pair (.leaf 4) (.leaf 4)))) (.pair (.leaf 4) (.pair (.leaf 4) (.pair (.leaf 4) (.leaf 4))))] [.pair (.pair (.leaf 4) (.pair (.leaf 4) (.pair (.leaf 4) (.leaf 4)))) (.pair (.leaf 4) (.pair (.leaf 4) (.pair (.leaf 4) (.leaf 4))))] (x,y)=Zrg x y:=by kernel_rfl
theorem Ztp:Zj Tryz.prog ZEf.1 ZEf.2:=Zm (C:=⟨Tryz.prog,[(38,0),(40,2),(42,3),(47,1),(49,4)],[ZDh,Zvf,Zpe],[],[],[],[],[]⟩) ⟨Zrt,ZKo,Zxk,trivial⟩ trivial trivial trivial (inl:=[]) trivial (ann:=.no) Tryz.func61 (fun _ _=>by kernel_rfl) rfl (fun v vals x z ha hz=>(wMul_i x.1 x.2).trans hz)
end Go.Eng
set_option maxRecDepth 100000
set_option maxHeartbeats 4000000
namespace Go.Eng
open Go.Proofs Go.RowKit
def ZHm:FuncId×Con:=(62,⟨[.pair (.pair (.leaf 4) (.pair (.leaf 4) (.pair (.leaf 4) (.leaf 4)))) (.pair (.leaf 4) (.pair (.leaf 4) (.pair (.leaf 4) (.leaf 4))))],[.pair (.pair (.leaf 4) (.pair (.leaf 4) (.pair (.leaf 4) (.leaf 4)))) (.pair (.leaf 4) (.pair (.leaf 4) (.pair (.leaf 4) (.leaf 4))))],fun p=>Z6j p⟩)
theorem wNeg_i (x:(Rat×Rat×Rat×Rat)×Rat×Rat×Rat×Rat):Zk ⟨Tryz.prog,[(38,0),(40,2),(42,3),(47,1),(49,4)],[ZAf],[],[],[],[],[]⟩ [] Tryz.f62 .no [.pair (.pair (.leaf 4) (.pair (.leaf 4) (.pair (.leaf 4) (.leaf 4)))) (.pair (.leaf 4) (.pair (.leaf 4) (.pair (.leaf 4) (.leaf 4))))] [.pair (.pair (.leaf 4) (.pair (.leaf 4) (.pair (.leaf 4) (.leaf 4)))) (.pair (.leaf 4) (.pair (.leaf 4) (.pair (.leaf 4) (.leaf 4))))] (x)=Z6j x:=by kernel_rfl
theorem wNeg_k:Zj Tryz.prog ZHm.1 ZHm.2:=Zm (C:=⟨Tryz.prog,[(38,0),(40,2),(42,3),(47,1),(49,4)],[ZAf],[],[],[],[],[]⟩) ⟨Zzn,trivial⟩ trivial trivial trivial (inl:=[]) trivial (ann:=.no) Tryz.func62 (fun _ _=>by kernel_rfl) rfl (fun v vals x z ha hz=>(wNeg_i x).trans hz)
end Go.Eng
set_option maxRecDepth 100000
set_option maxHeartbeats 4000000
namespace Go.Eng
open Go.Proofs Go.RowKit
def Zjl:FuncId×Con:=(63,⟨[.pair (.pair (.leaf 4) (.pair (.leaf 4) (.pair (.leaf 4) (.leaf 4)))) (.pair (.leaf 4) (.pair (.leaf 4) (.pair (.leaf 4) (.leaf 4)))),.pair (.pair (.leaf 4) (.pair (.leaf 4) (.pair (.leaf 4) (.leaf 4)))) (.pair (.leaf 4) (.pair (.leaf 4) (.pair (.leaf 4) (.leaf 4))))],[.pair (.pair (.leaf 4) (.pair (.leaf 4) (.pair (.leaf 4) (.leaf 4)))) (.pair (.leaf 4) (.pair (.leaf 4) (.pair (.leaf 4) (.leaf 4))))],fun p=>ZAj p.1 p.2⟩)
theorem wAdd_i (x:(Rat×Rat×Rat×Rat)×Rat×Rat×Rat×Rat) (y:(Rat×Rat×Rat×Rat)×Rat×Rat×Rat×Rat):Zk ⟨Tryz.prog,[(38,0),(40,2),(42,3),(47,1),(49,4)],[Zpe],[],[],[],[],[]⟩ [] Tryz.f63 .no [.pair (.pair (.leaf 4) (.pair (.leaf 4) (.pair (.leaf 4) (.leaf 4)))) (.pair (.leaf 4) (.pair (.leaf 4) (.pair (.leaf 4) (.leaf 4)))),.pair (.pair (.leaf 4) (.pair (.leaf 4) (.pair (.leaf 4) (.leaf 4)))) (.pair (.leaf 4) (.pair (.leaf 4) (.pair (.leaf 4) (.leaf 4))))] [.pair (.pair (.leaf 4) (.pair (.leaf 4) (.pair (.leaf 4) (.leaf 4)))) (.pair (.leaf 4) (.pair (.leaf 4) (.pair (.leaf 4) (.leaf 4))))] (x,y)=ZAj x y:=by kernel_rfl
theorem wAdd_k:Zj Tryz.prog Zjl.1 Zjl.2:=Zm (C:=⟨Tryz.prog,[(38,0),(40,2),(42,3),(47,1),(49,4)],[Zpe],[],[],[],[],[]⟩) ⟨Zxk,trivial⟩ trivial trivial trivial (inl:=[]) trivial (ann:=.no) Tryz.func63 (fun _ _=>by kernel_rfl) rfl (fun v vals x z ha hz=>(wAdd_i x.1 x.2).trans hz)
end Go.Eng
set_option maxRecDepth 100000
set_option maxHeartbeats 4000000
namespace Go.Eng
open Go.Proofs Go.RowKit
def Z1j (kf:Nat):FuncId×Con:=(16,⟨[.slice (.slice (.pair (.pair (.leaf 4) (.pair (.leaf 4) (.pair (.leaf 4) (.leaf 4)))) (.pair (.leaf 4) (.pair (.leaf 4) (.pair (.leaf 4) (.leaf 4))))))],[.pair (.pair (.leaf 4) (.pair (.leaf 4) (.pair (.leaf 4) (.leaf 4)))) (.pair (.leaf 4) (.pair (.leaf 4) (.pair (.leaf 4) (.leaf 4)))),.int .i64],fun p=>ZUe kf p⟩)
theorem rDet_i (kf:Nat) (m:List (List ((Rat×Rat×Rat×Rat)×Rat×Rat×Rat×Rat))):Zk ⟨Tryz.prog,[(38,0),(40,2),(42,3),(47,1),(49,4)],[Z1j kf,ZXc,ZBf,Zsf,Zoi,ZEf,ZHm,Zjl],[],[],[],[],[]⟩ [] Tryz.f16 (.two .no (.two .no (.two .no (.two .no (.two (.two .no (.two (.cut ⟨⟨[0,2,4],[],[.s 5 (.dat (.int .i64)),.l (.sl 4) (.box 53 (.dat (.pair (.pair (.leaf 4) (.pair (.leaf 4) (.pair (.leaf 4) (.leaf 4)))) (.pair (.leaf 4) (.pair (.leaf 4) (.pair (.leaf 4) (.leaf 4)))))))]⟩,[(.exit 0,⟨[2,4],[],[.l (.sl 4) (.box 53 (.dat (.pair (.pair (.leaf 4) (.pair (.leaf 4) (.pair (.leaf 4) (.leaf 4)))) (.pair (.leaf 4) (.pair (.leaf 4) (.pair (.leaf 4) (.leaf 4)))))))]⟩)]⟩ (.two (.two .no (.two (.cut ⟨⟨[],[],[]⟩,[(.norm,⟨[0,2,4,5],[],[.l (.sl 4) (.box 53 (.dat (.pair (.pair (.leaf 4) (.pair (.leaf 4) (.pair (.leaf 4) (.leaf 4)))) (.pair (.leaf 4) (.pair (.leaf 4) (.pair (.leaf 4) (.leaf 4)))))))]⟩)]⟩ (.two (.two .no (.two .no (.two (.two .no (.two (.cut ⟨⟨[0,2,4,5],[],[.s 6 (.own 31 (.slice (.pair (.pair (.leaf 4) (.pair (.leaf 4) (.pair (.leaf 4) (.leaf 4)))) (.pair (.leaf 4) (.pair (.leaf 4) (.pair (.leaf 4) (.leaf 4))))))),.s 7 (.dat (.int .i64))]⟩,[(.exit 2,⟨[0,2,4,5],[],[.s 6 (.own 31 (.slice (.pair (.pair (.leaf 4) (.pair (.leaf 4) (.pair (.leaf 4) (.leaf 4)))) (.pair (.leaf 4) (.pair (.leaf 4) (.pair (.leaf 4) (.leaf 4)))))))]⟩)]⟩ (.two (.two .no (.two (.two (.two .no (.cut ⟨⟨[],[],[]⟩,[(.norm,⟨[0,2,4,5,7],[],[.s 6 (.own 31 (.slice (.pair (.pair (.leaf 4) (.pair (.leaf 4) (.pair (.leaf 4) (.leaf 4)))) (.pair (.leaf 4) (.pair (.leaf 4) (.pair (.leaf 4) (.leaf 4)))))))]⟩)]⟩ .no)) .no) .no)) .no)) .no)) (.two .no (.two .no (.two (.two .no (.cut ⟨⟨[],[],[]⟩,[(.norm,⟨[0,2,4,5,8],[],[.l (.sl 8) (.box 53 (.dat (.pair (.pair (.leaf 4) (.pair (.leaf 4) (.pair (.leaf 4) (.leaf 4)))) (.pair (.leaf 4) (.pair (.leaf 4) (.pair (.leaf 4) (.leaf 4)))))))]⟩)]⟩ .no)) .no)))))) .no)) .no)) .no)) .no)) .no))))) [.slice (.slice (.pair (.pair (.leaf 4) (.pair (.leaf 4) (.pair (.leaf 4) (.leaf 4)))) (.pair (.leaf 4) (.pair (.leaf 4) (.pair (.leaf 4) (.leaf 4))))))] [.pair (.pair (.leaf 4) (.pair (.leaf 4) (.pair (.leaf 4) (.leaf 4)))) (.pair (.leaf 4) (.pair (.leaf 4) (.pair (.leaf 4) (.leaf 4)))),.int .i64] (m)=ZUe (kf+1) m:=by kernel_rfl
theorem Zct:∀ kf,Zj Tryz.prog (Z1j kf).1 (Z1j kf).2
 | 0=>fun _ _ _ _ _ _ _ h=>by cases h
 | kf+1=>Zm (C:=⟨Tryz.prog,[(38,0),(40,2),(42,3),(47,1),(49,4)],[Z1j kf,ZXc,ZBf,Zsf,Zoi,ZEf,ZHm,Zjl],[],[],[],[],[]⟩) ⟨Zct kf,Z3i,ZVn,ZBo,Zps,Ztp,wNeg_k,wAdd_k,trivial⟩ trivial trivial trivial (inl:=[]) trivial (ann:=(.two .no (.two .no (.two .no (.two .no (.two (.two .no (.two (.cut ⟨⟨[0,2,4],[],[.s 5 (.dat (.int .i64)),.l (.sl 4) (.box 53 (.dat (.pair (.pair (.leaf 4) (.pair (.leaf 4) (.pair (.leaf 4) (.leaf 4)))) (.pair (.leaf 4) (.pair (.leaf 4) (.pair (.leaf 4) (.leaf 4)))))))]⟩,[(.exit 0,⟨[2,4],[],[.l (.sl 4) (.box 53 (.dat (.pair (.pair (.leaf 4) (.pair (.leaf 4) (.pair (.leaf 4) (.leaf 4)))) (.pair (.leaf 4) (.pair (.leaf 4) (.pair (.leaf 4) (.leaf 4)))))))]⟩)]⟩ (.two (.two .no (.two (.cut ⟨⟨[],[],[]⟩,[(.norm,⟨[0,2,4,5],[],[.l (.sl 4) (.box 53 (.dat (.pair (.pair (.leaf 4) (.pair (.leaf 4) (.pair (.leaf 4) (.leaf 4)))) (.pair (.leaf 4) (.pair (.leaf 4) (.pair (.leaf 4) (.leaf 4)))))))]⟩)]⟩ (.two (.two .no (.two .no (.two (.two .no (.two (.cut ⟨⟨[0,2,4,5],[],[.s 6 (.own 31 (.slice (.pair (.pair (.leaf 4) (.pair (.leaf 4) (.pair (.leaf 4) (.leaf 4)))) (.pair (.leaf 4) (.pair (.leaf 4) (.pair (.leaf 4) (.leaf 4))))))),.s 7 (.dat (.int .i64))]⟩,[(.exit 2,⟨[0,2,4,5],[],[.s 6 (.own 31 (.slice (.pair (.pair (.leaf 4) (.pair (.leaf 4) (.pair (.leaf 4) (.leaf 4)))) (.pair (.leaf 4) (.pair (.leaf 4) (.pair (.leaf 4) (.leaf 4)))))))]⟩)]⟩ (.two (.two .no (.two (.two (.two .no (.cut ⟨⟨[],[],[]⟩,[(.norm,⟨[0,2,4,5,7],[],[.s 6 (.own 31 (.slice (.pair (.pair (.leaf 4) (.pair (.leaf 4) (.pair (.leaf 4) (.leaf 4)))) (.pair (.leaf 4) (.pair (.leaf 4) (.pair (.leaf 4) (.leaf 4)))))))]⟩)]⟩ .no)) .no) .no)) .no)) .no)) (.two .no (.two .no (.two (.two .no (.cut ⟨⟨[],[],[]⟩,[(.norm,⟨[0,2,4,5,8],[],[.l (.sl 8) (.box 53 (.dat (.pair (.pair (.leaf 4) (.pair (.leaf 4) (.pair (.leaf 4) (.leaf 4)))) (.pair (.leaf 4) (.pair (.leaf 4) (.pair (.leaf 4) (.leaf 4)))))))]⟩)]⟩ .no)) .no)))))) .no)) .no)) .no)) .no)) .no)))))) Tryz.func16 (fun _ _=>by kernel_rfl) rfl (fun v vals x z ha hz=>(rDet_i kf x).trans hz)
def Zdl:FuncId×Con:=Z1j 8
theorem rDet_k:Zj Tryz.prog Zdl.1 Zdl.2:=Zct 8
end Go.Eng
set_option maxRecDepth 100000
set_option maxHeartbeats 4000000
namespace Go.Eng
open Go.Proofs Go.RowKit
def Zti:FuncId×Con:=(67,⟨[.slice (.slice (.leaf 3)),.slice (.slice (.leaf 3))],[.slice (.slice (.leaf 3))],fun p=>Z8e p.1 p.2⟩)
theorem Z3z (m:List (List Rat)) (b:List (List Rat)):Zk ⟨Tryz.prog,[(38,0),(40,2),(42,3),(47,1),(49,4)],[],[8],[Z3c],[],[],[]⟩ [(101,Tryz.f101,.two .no (.two .no (.two (.two .no (.two (.cut ⟨⟨[3,9,10],[],[.s 11 (.dat (.int .i64)),.l (.sl 3) (.mat 30 42 (.leaf 3))]⟩,[(.exit 0,⟨[3],[],[.l (.sl 3) (.mat 30 42 (.leaf 3))]⟩)]⟩ .no) .no)) .no)))] Tryz.f67 (.two .no (.two .no (.two (.two .no (.two (.cut ⟨⟨[1,5,10],[],[.s 11 (.dat (.int .i64)),.l (.sl 5) (.mat 30 42 (.leaf 3))]⟩,[(.exit 0,⟨[5],[],[.l (.sl 5) (.mat 30 42 (.leaf 3))]⟩)]⟩ .no) .no)) .no))) [.slice (.slice (.leaf 3)),.slice (.slice (.leaf 3))] [.slice (.slice (.leaf 3))] (m,b)=Z8e m b:=by kernel_rfl
theorem Zsu:Zj Tryz.prog Zti.1 Zti.2:=Zm (C:=⟨Tryz.prog,[(38,0),(40,2),(42,3),(47,1),(49,4)],[],[8],[Z3c],[],[],[]⟩) trivial ⟨Z8i,trivial⟩ trivial trivial (inl:=[(101,Tryz.f101,.two .no (.two .no (.two (.two .no (.two (.cut ⟨⟨[3,9,10],[],[.s 11 (.dat (.int .i64)),.l (.sl 3) (.mat 30 42 (.leaf 3))]⟩,[(.exit 0,⟨[3],[],[.l (.sl 3) (.mat 30 42 (.leaf 3))]⟩)]⟩ .no) .no)) .no)))]) ⟨⟨Tryz.func101,fun _ _=>by kernel_rfl⟩,trivial⟩ (ann:=(.two .no (.two .no (.two (.two .no (.two (.cut ⟨⟨[1,5,10],[],[.s 11 (.dat (.int .i64)),.l (.sl 5) (.mat 30 42 (.leaf 3))]⟩,[(.exit 0,⟨[5],[],[.l (.sl 5) (.mat 30 42 (.leaf 3))]⟩)]⟩ .no) .no)) .no)))) Tryz.func67 (fun _ _=>by kernel_rfl) rfl (fun v vals x z ha hz=>(Z3z x.1 x.2).trans hz)
end Go.Eng
set_option maxRecDepth 100000
set_option maxHeartbeats 4000000
namespace Go.Eng
open Go.Proofs Go.RowKit
def ZJk:FuncId×Con:=(99,⟨[.slice (.leaf 3)],[.slice (.slice (.leaf 3))],fun p=>Zak p⟩)
theorem ZlA (b:List Rat):Zk ⟨Tryz.prog,[(38,0),(40,2),(42,3),(47,1),(49,4)],[],[8],[],[],[],[]⟩ [] Tryz.f99 (.two .no (.two .no (.two (.two .no (.two (.cut ⟨⟨[3,9,10],[],[.s 11 (.dat (.int .i64)),.l (.sl 3) (.mat 30 42 (.leaf 3))]⟩,[(.exit 0,⟨[3],[],[.l (.sl 3) (.mat 30 42 (.leaf 3))]⟩)]⟩ .no) .no)) .no))) [.slice (.leaf 3)] [.slice (.slice (.leaf 3))] (b)=Zak b:=by kernel_rfl
theorem Z7u:Zj Tryz.prog ZJk.1 ZJk.2:=Zm (C:=⟨Tryz.prog,[(38,0),(40,2),(42,3),(47,1),(49,4)],[],[8],[],[],[],[]⟩) trivial trivial trivial trivial (inl:=[]) trivial (ann:=(.two .no (.two .no (.two (.two .no (.two (.cut ⟨⟨[3,9,10],[],[.s 11 (.dat (.int .i64)),.l (.sl 3) (.mat 30 42 (.leaf 3))]⟩,[(.exit 0,⟨[3],[],[.l (.sl 3) (.mat 30 42 (.leaf 3))]⟩)]⟩ .no) .no)) .no)))) Tryz.func99 (fun _ _=>by kernel_rfl) rfl (fun v vals x z ha hz=>(ZlA x).trans hz)
end Go.Eng
set_option maxRecDepth 100000
set_option maxHeartbeats 4000000
namespace Go.Eng
open Go.Proofs Go.RowKit
def Znk:FuncId×Con:=(51,⟨[.slice (.slice (.leaf 3)),.slice (.leaf 3)],[.slice (.leaf 3),.int .i64],fun p=>Zhh p.1 p.2⟩)
theorem Any_i (m:List (List Rat)) (b:List Rat):Zk ⟨Tryz.prog,[(38,0),(40,2),(42,3),(47,1),(49,4)],[Zye,Z1d,Z3d,Zti,ZCb,ZJk],[],[ZJf],[],[],[]⟩ [(74,Tryz.f74,.no)] Tryz.f51 (.two .no (.two (.two (.cut ⟨⟨[],[],[]⟩,[(.norm,⟨[0,1],[],[.s 23 (.dat .bool)]⟩)]⟩ .no) .no) (.two .no (.two .no (.two (.two .no (.two (.cut ⟨⟨[],[],[]⟩,[(.norm,⟨[6,7,8],[],[.s 47 (.dat .bool)]⟩)]⟩ .no) .no)) (.two .no (.two (.two .no (.two (.cut ⟨⟨[6,7,11,50,51],[],[.s 52 (.dat (.int .i64)),.l (.sl 11) (.own 42 (.leaf 3))]⟩,[(.exit 0,⟨[11],[],[.l (.sl 11) (.own 42 (.leaf 3))]⟩)]⟩ .no) .no)) .no))))))) [.slice (.slice (.leaf 3)),.slice (.leaf 3)] [.slice (.leaf 3),.int .i64] (m,b)=Zhh m b:=by kernel_rfl
theorem Any_k:Zj Tryz.prog Znk.1 Znk.2:=Zm (C:=⟨Tryz.prog,[(38,0),(40,2),(42,3),(47,1),(49,4)],[Zye,Z1d,Z3d,Zti,ZCb,ZJk],[],[ZJf],[],[],[]⟩) ⟨Zwl,ZVl,Zvk,Zsu,Zeg,Z7u,trivial⟩ ⟨Zqq,trivial⟩ trivial trivial (inl:=[(74,Tryz.f74,.no)]) ⟨⟨Tryz.func74,fun _ _=>by kernel_rfl⟩,trivial⟩ (ann:=(.two .no (.two (.two (.cut ⟨⟨[],[],[]⟩,[(.norm,⟨[0,1],[],[.s 23 (.dat .bool)]⟩)]⟩ .no) .no) (.two .no (.two .no (.two (.two .no (.two (.cut ⟨⟨[],[],[]⟩,[(.norm,⟨[6,7,8],[],[.s 47 (.dat .bool)]⟩)]⟩ .no) .no)) (.two .no (.two (.two .no (.two (.cut ⟨⟨[6,7,11,50,51],[],[.s 52 (.dat (.int .i64)),.l (.sl 11) (.own 42 (.leaf 3))]⟩,[(.exit 0,⟨[11],[],[.l (.sl 11) (.own 42 (.leaf 3))]⟩)]⟩ .no) .no)) .no)))))))) Tryz.func51 (fun _ _=>by kernel_rfl) rfl (fun v vals x z ha hz=>(Any_i x.1 x.2).trans hz)
end Go.Eng
set_option maxRecDepth 100000
set_option maxHeartbeats 4000000
namespace Go.Eng
open Go.Proofs Go.RowKit
def ZFk:FuncId×Con:=(64,⟨[.slice (.slice (.leaf 3))],[.int .i64,.int .i64],fun p=>ZLi p⟩)
theorem Rank_i (m:List (List Rat)):Zk ⟨Tryz.prog,[(38,0),(40,2),(42,3),(47,1),(49,4)],[ZNh],[],[],[],[],[]⟩ [] Tryz.f64 .no [.slice (.slice (.leaf 3))] [.int .i64,.int .i64] (m)=ZLi m:=by kernel_rfl
theorem Rank_k:Zj Tryz.prog ZFk.1 ZFk.2:=Zm (C:=⟨Tryz.prog,[(38,0),(40,2),(42,3),(47,1),(49,4)],[ZNh],[],[],[],[],[]⟩) ⟨Zxr,trivial⟩ trivial trivial trivial (inl:=[]) trivial (ann:=.no) Tryz.func64 (fun _ _=>by kernel_rfl) rfl (fun v vals x z ha hz=>(Rank_i x).trans hz)
end Go.Eng
set_option maxRecDepth 100000
set_option maxHeartbeats 4000000
namespace Go.Eng
open Go.Proofs Go.RowKit
def Znl:FuncId×Con:=(17,⟨[.slice (.slice (.leaf 3)),.slice (.leaf 3)],[.slice (.leaf 3),.int .i64],fun p=>Ztd p.1 p.2⟩)
theorem Solve_i (m:List (List Rat)) (b:List Rat):Zk ⟨Tryz.prog,[(38,0),(40,2),(42,3),(47,1),(49,4)],[Znk,Z1f,ZFk],[],[],[],[],[]⟩ [] Tryz.f17 (.two .no (.two (.two (.cut ⟨⟨[],[],[]⟩,[(.norm,⟨[0,1],[],[.s 17 (.dat .bool)]⟩)]⟩ .no) .no) .no)) [.slice (.slice (.leaf 3)),.slice (.leaf 3)] [.slice (.leaf 3),.int .i64] (m,b)=Ztd m b:=by kernel_rfl
theorem Solve_k:Zj Tryz.prog Znl.1 Znl.2:=Zm (C:=⟨Tryz.prog,[(38,0),(40,2),(42,3),(47,1),(49,4)],[Znk,Z1f,ZFk],[],[],[],[],[]⟩) ⟨Any_k,Z6p,Rank_k,trivial⟩ trivial trivial trivial (inl:=[]) trivial (ann:=(.two .no (.two (.two (.cut ⟨⟨[],[],[]⟩,[(.norm,⟨[0,1],[],[.s 17 (.dat .bool)]⟩)]⟩ .no) .no) .no))) Tryz.func17 (fun _ _=>by kernel_rfl) rfl (fun v vals x z ha hz=>(Solve_i x.1 x.2).trans hz)
end Go.Eng
set_option maxRecDepth 100000
set_option maxHeartbeats 4000000
namespace Go.Eng
open Go.Proofs Go.RowKit
def ZCk:FuncId×Con:=(73,⟨[.pair (.pair (.leaf 4) (.pair (.leaf 4) (.pair (.leaf 4) (.leaf 4)))) (.pair (.leaf 4) (.pair (.leaf 4) (.pair (.leaf 4) (.leaf 4))))],[.pair (.pair (.leaf 4) (.pair (.leaf 4) (.pair (.leaf 4) (.leaf 4)))) (.pair (.leaf 4) (.pair (.leaf 4) (.pair (.leaf 4) (.leaf 4))))],fun p=>Zdk p⟩)
theorem wConj_i (x:(Rat×Rat×Rat×Rat)×Rat×Rat×Rat×Rat):Zk ⟨Tryz.prog,[(38,0),(40,2),(42,3),(47,1),(49,4)],[ZAf],[],[],[],[],[]⟩ [] Tryz.f73 .no [.pair (.pair (.leaf 4) (.pair (.leaf 4) (.pair (.leaf 4) (.leaf 4)))) (.pair (.leaf 4) (.pair (.leaf 4) (.pair (.leaf 4) (.leaf 4))))] [.pair (.pair (.leaf 4) (.pair (.leaf 4) (.pair (.leaf 4) (.leaf 4)))) (.pair (.leaf 4) (.pair (.leaf 4) (.pair (.leaf 4) (.leaf 4))))] (x)=Zdk x:=by kernel_rfl
theorem wConj_k:Zj Tryz.prog ZCk.1 ZCk.2:=Zm (C:=⟨Tryz.prog,[(38,0),(40,2),(42,3),(47,1),(49,4)],[ZAf],[],[],[],[],[]⟩) ⟨Zzn,trivial⟩ trivial trivial trivial (inl:=[]) trivial (ann:=.no) Tryz.func73 (fun _ _=>by kernel_rfl) rfl (fun v vals x z ha hz=>(wConj_i x).trans hz)
end Go.Eng
set_option maxRecDepth 100000
set_option maxHeartbeats 4000000
namespace Go.Eng
open Go.Proofs Go.RowKit
def ZJl:FuncId×Con:=(189,⟨[.pair (.leaf 4) (.pair (.leaf 4) (.pair (.leaf 4) (.leaf 4))),.int .i64],[.pair (.leaf 4) (.pair (.leaf 4) (.pair (.leaf 4) (.leaf 4)))],fun p=>ZCf p.1 p.2⟩)
theorem Z4y (x:Rat×Rat×Rat×Rat) (bit:Int):Zk ⟨Tryz.prog,[(38,0),(40,2),(42,3),(47,1),(49,4)],[Z8h],[],[],[],[],[]⟩ [] Tryz.f189 (.two .no (.two (.two .no (.two (.unroll 5 (.two (.two .no (.two (.two (.two .no (.cut ⟨⟨[],[],[]⟩,[(.norm,⟨[1,2,4,5],[],[.l (.sl 2) (.box 51 (.dat (.pair (.leaf 4) (.pair (.leaf 4) (.pair (.leaf 4) (.leaf 4))))))]⟩)]⟩ .no)) .no) .no)) .no)) .no)) .no)) [.pair (.leaf 4) (.pair (.leaf 4) (.pair (.leaf 4) (.leaf 4))),.int .i64] [.pair (.leaf 4) (.pair (.leaf 4) (.pair (.leaf 4) (.leaf 4)))] (x,bit)=ZCf x bit:=by kernel_rfl
theorem ZzA:Zj Tryz.prog ZJl.1 ZJl.2:=Zm (C:=⟨Tryz.prog,[(38,0),(40,2),(42,3),(47,1),(49,4)],[Z8h],[],[],[],[],[]⟩) ⟨Zzt,trivial⟩ trivial trivial trivial (inl:=[]) trivial (ann:=(.two .no (.two (.two .no (.two (.unroll 5 (.two (.two .no (.two (.two (.two .no (.cut ⟨⟨[],[],[]⟩,[(.norm,⟨[1,2,4,5],[],[.l (.sl 2) (.box 51 (.dat (.pair (.leaf 4) (.pair (.leaf 4) (.pair (.leaf 4) (.leaf 4))))))]⟩)]⟩ .no)) .no) .no)) .no)) .no)) .no))) Tryz.func189 (fun _ _=>by kernel_rfl) rfl (fun v vals x z ha hz=>(Z4y x.1 x.2).trans hz)
def Zqo (x:Rat) (y:Rat):Option (Rat×Int) :=
 bnd (ZDc y) fun a =>
 ifb (a)
 (bnd (Zga (0:Int)) fun b =>
 some ((b,(3:Int))))
 (bnd (ZXb y) fun c =>
 bnd (Zua x.num.natAbs c) fun d =>
 bnd (ZXb x) fun e =>
 bnd (Zua e y.num.natAbs) fun f =>
 bnd (Znb ((decide (x.num<0)) != (decide (y.num<0))) d f) fun g =>
 some ((g,(0:Int))))
theorem ZOw {x y:Rat} {z:Rat×Int} (h:ZPj x y=some z):Zqo x y=some z:=by
 unfold ZPj at h;split at h
 ·rename_i hh;obtain ⟨⟨a1,a2⟩,b1,b2⟩:=hh
  cases h
  unfold Zqo ZDc;rw [Za];by_cases h0:y=0
  ·subst h0;rfl
  ·rw [decide_eq_false h0,Ze,if_neg h0];unfold ZXb;have hn:=Zfr h0;have p1:=Zib x.num.natAbs y.den;have p3:=Zib x.den y.num.natAbs;have e1:Zua x.num.natAbs y.den=some (x.num.natAbs*y.den):=by unfold Zua;rw [if_pos ⟨Zvb (by omega),Zvb (by omega)⟩]
   have e3:Zua x.den y.num.natAbs=some (x.den*y.num.natAbs):=by unfold Zua;rw [if_pos ⟨Zvb (by omega),Zvb (by omega)⟩]
   rw [Za,e1,Za,Za,e3,Za];unfold Znb;rw [if_pos ⟨ZQd (by omega),ZQd (by omega),Nat.mul_ne_zero x.den_nz (by omega)⟩,Za];have e:sgn ((decide (x.num<0)) != (decide (y.num<0))) (x.num.natAbs*y.den)=if y.num<0 then -(x.num*(y.den:Int)) else x.num*(y.den:Int):=by
    have eN:((x.num.natAbs*y.den:Nat):Int)=(x.num.natAbs:Int)*y.den:=by simp
    unfold sgn;rw [eN];by_cases h:x.num<0
    ·have hx:(x.num.natAbs:Int) = -x.num:=by omega
     by_cases h2:y.num<0 <;> simp [h,h2,hx,Int.neg_mul]
    ·have hx:(x.num.natAbs:Int)=x.num:=by omega
     by_cases h2:y.num<0 <;> simp [h,h2,hx,Int.neg_mul]
   rw [e,← Zor h0]
 ·cases h
end Go.Eng
set_option maxRecDepth 100000
set_option maxHeartbeats 4000000
namespace Go.Eng
open Go.Proofs Go.RowKit
def ZBl:FuncId×Con:=(197,⟨[.leaf 4,.leaf 4],[.leaf 4,.int .i64],fun p=>ZPj p.1 p.2⟩)
theorem rdiv_i (x:Rat) (y:Rat):Zk ⟨Tryz.prog,[(47,1),(49,4)],[Z3a,ZBc,Zjg,Z7c,ZWd],[],[],[],[],[]⟩ [] Tryz.f197 .no [.leaf 4,.leaf 4] [.leaf 4,.int .i64] (x,y)=Zqo x y:=by kernel_rfl
theorem rdiv_k:Zj Tryz.prog ZBl.1 ZBl.2:=Zm (C:=⟨Tryz.prog,[(47,1),(49,4)],[Z3a,ZBc,Zjg,Z7c,ZWd],[],[],[],[],[]⟩) ⟨Zae,Zxh,ZDo,ZGj,Z2m,trivial⟩ trivial trivial trivial (inl:=[]) trivial (ann:=.no) Tryz.func197 (fun _ _=>by kernel_rfl) rfl fun v vals x z ha hz=>(rdiv_i x.1 x.2).trans (ZOw hz)
theorem rbyF_eq {x y z:Rat} (h:Zle x y=some z):rby_m x y=some z:=by
 unfold Zle at h;split at h
 ·rename_i hh
  cases h
  unfold rby_m ZPj;rw [if_pos hh,Za];split <;> rfl
 ·cases h
end Go.Eng
set_option maxRecDepth 100000
set_option maxHeartbeats 4000000
namespace Go.Eng
open Go.Proofs Go.RowKit
def ZSl:FuncId×Con:=(190,⟨[.leaf 4,.leaf 4],[.leaf 4],fun p=>Zle p.1 p.2⟩)
theorem rby_i (x:Rat) (y:Rat):Zk ⟨Tryz.prog,[(47,1),(49,4)],[ZBl],[],[],[],[],[]⟩ [] Tryz.f190 .no [.leaf 4,.leaf 4] [.leaf 4] (x,y)=rby_m x y:=by kernel_rfl
theorem rby_k:Zj Tryz.prog ZSl.1 ZSl.2:=Zm (C:=⟨Tryz.prog,[(47,1),(49,4)],[ZBl],[],[],[],[],[]⟩) ⟨rdiv_k,trivial⟩ trivial trivial trivial (inl:=[]) trivial (ann:=.no) Tryz.func190 (fun _ _=>by kernel_rfl) rfl fun v vals x z ha hz=>(rby_i x.1 x.2).trans (rbyF_eq hz)
end Go.Eng
set_option maxRecDepth 100000
set_option maxHeartbeats 4000000
namespace Go.Eng
open Go.Proofs Go.RowKit
def ZAl:FuncId×Con:=(167,⟨[.pair (.leaf 4) (.pair (.leaf 4) (.pair (.leaf 4) (.leaf 4))),.pair (.leaf 4) (.pair (.leaf 4) (.pair (.leaf 4) (.leaf 4)))],[.pair (.leaf 4) (.pair (.leaf 4) (.pair (.leaf 4) (.leaf 4))),.int .i64],fun p=>Zdi p.1 p.2⟩)
theorem sDiv_i (x:Rat×Rat×Rat×Rat) (y:Rat×Rat×Rat×Rat):Zk ⟨Tryz.prog,[(38,0),(40,2),(42,3),(47,1),(49,4)],[ZCe,Z3a,Zbi,Zvf,ZJl,ZSl],[],[],[],[],[]⟩ [] Tryz.f167 .no [.pair (.leaf 4) (.pair (.leaf 4) (.pair (.leaf 4) (.leaf 4))),.pair (.leaf 4) (.pair (.leaf 4) (.pair (.leaf 4) (.leaf 4)))] [.pair (.leaf 4) (.pair (.leaf 4) (.pair (.leaf 4) (.leaf 4))),.int .i64] (x,y)=Zdi x y:=by kernel_rfl
theorem sDiv_k:Zj Tryz.prog ZAl.1 ZAl.2:=Zm (C:=⟨Tryz.prog,[(38,0),(40,2),(42,3),(47,1),(49,4)],[ZCe,Z3a,Zbi,Zvf,ZJl,ZSl],[],[],[],[],[]⟩) ⟨ZIk,Zae,Z3q,ZKo,ZzA,rby_k,trivial⟩ trivial trivial trivial (inl:=[]) trivial (ann:=.no) Tryz.func167 (fun _ _=>by kernel_rfl) rfl (fun v vals x z ha hz=>(sDiv_i x.1 x.2).trans hz)
end Go.Eng
set_option maxRecDepth 100000
set_option maxHeartbeats 4000000
namespace Go.Eng
open Go.Proofs Go.RowKit
def ZZm:FuncId×Con:=(168,⟨[.pair (.pair (.leaf 4) (.pair (.leaf 4) (.pair (.leaf 4) (.leaf 4)))) (.pair (.leaf 4) (.pair (.leaf 4) (.pair (.leaf 4) (.leaf 4))))],[.pair (.leaf 4) (.pair (.leaf 4) (.pair (.leaf 4) (.leaf 4)))],fun p=>Zbh p⟩)
theorem wNorm_i (x:(Rat×Rat×Rat×Rat)×Rat×Rat×Rat×Rat):Zk ⟨Tryz.prog,[(38,0),(40,2),(42,3),(47,1),(49,4)],[Zvf,Zpe],[],[],[],[],[]⟩ [] Tryz.f168 .no [.pair (.pair (.leaf 4) (.pair (.leaf 4) (.pair (.leaf 4) (.leaf 4)))) (.pair (.leaf 4) (.pair (.leaf 4) (.pair (.leaf 4) (.leaf 4))))] [.pair (.leaf 4) (.pair (.leaf 4) (.pair (.leaf 4) (.leaf 4)))] (x)=Zbh x:=by kernel_rfl
theorem wNorm_k:Zj Tryz.prog ZZm.1 ZZm.2:=Zm (C:=⟨Tryz.prog,[(38,0),(40,2),(42,3),(47,1),(49,4)],[Zvf,Zpe],[],[],[],[],[]⟩) ⟨ZKo,Zxk,trivial⟩ trivial trivial trivial (inl:=[]) trivial (ann:=.no) Tryz.func168 (fun _ _=>by kernel_rfl) rfl (fun v vals x z ha hz=>(wNorm_i x).trans hz)
end Go.Eng
set_option maxRecDepth 100000
set_option maxHeartbeats 4000000
namespace Go.Eng
open Go.Proofs Go.RowKit
def Zdn:FuncId×Con:=(139,⟨[.pair (.pair (.leaf 4) (.pair (.leaf 4) (.pair (.leaf 4) (.leaf 4)))) (.pair (.leaf 4) (.pair (.leaf 4) (.pair (.leaf 4) (.leaf 4)))),.pair (.pair (.leaf 4) (.pair (.leaf 4) (.pair (.leaf 4) (.leaf 4)))) (.pair (.leaf 4) (.pair (.leaf 4) (.pair (.leaf 4) (.leaf 4))))],[.pair (.pair (.leaf 4) (.pair (.leaf 4) (.pair (.leaf 4) (.leaf 4)))) (.pair (.leaf 4) (.pair (.leaf 4) (.pair (.leaf 4) (.leaf 4)))),.int .i64],fun p=>ZOk p.1 p.2⟩)
theorem wDiv_i (x:(Rat×Rat×Rat×Rat)×Rat×Rat×Rat×Rat) (y:(Rat×Rat×Rat×Rat)×Rat×Rat×Rat×Rat):Zk ⟨Tryz.prog,[(38,0),(40,2),(42,3),(47,1),(49,4)],[ZYc,ZXc,ZEf,ZCk,Z3a,ZAl,ZZm],[],[],[],[],[]⟩ [] Tryz.f139 .no [.pair (.pair (.leaf 4) (.pair (.leaf 4) (.pair (.leaf 4) (.leaf 4)))) (.pair (.leaf 4) (.pair (.leaf 4) (.pair (.leaf 4) (.leaf 4)))),.pair (.pair (.leaf 4) (.pair (.leaf 4) (.pair (.leaf 4) (.leaf 4)))) (.pair (.leaf 4) (.pair (.leaf 4) (.pair (.leaf 4) (.leaf 4))))] [.pair (.pair (.leaf 4) (.pair (.leaf 4) (.pair (.leaf 4) (.leaf 4)))) (.pair (.leaf 4) (.pair (.leaf 4) (.pair (.leaf 4) (.leaf 4)))),.int .i64] (x,y)=ZOk x y:=by kernel_rfl
theorem wDiv_k:Zj Tryz.prog Zdn.1 Zdn.2:=Zm (C:=⟨Tryz.prog,[(38,0),(40,2),(42,3),(47,1),(49,4)],[ZYc,ZXc,ZEf,ZCk,Z3a,ZAl,ZZm],[],[],[],[],[]⟩) ⟨ZHj,Z3i,Ztp,wConj_k,Zae,sDiv_k,wNorm_k,trivial⟩ trivial trivial trivial (inl:=[]) trivial (ann:=.no) Tryz.func139 (fun _ _=>by kernel_rfl) rfl (fun v vals x z ha hz=>(wDiv_i x.1 x.2).trans hz)
end Go.Eng
set_option maxRecDepth 100000
set_option maxHeartbeats 4000000
namespace Go.Eng
open Go.Proofs Go.RowKit
def ZCm:FuncId×Con:=(106,⟨[.pair (.pair (.leaf 4) (.pair (.leaf 4) (.pair (.leaf 4) (.leaf 4)))) (.pair (.leaf 4) (.pair (.leaf 4) (.pair (.leaf 4) (.leaf 4)))),.pair (.pair (.leaf 4) (.pair (.leaf 4) (.pair (.leaf 4) (.leaf 4)))) (.pair (.leaf 4) (.pair (.leaf 4) (.pair (.leaf 4) (.leaf 4))))],[.pair (.pair (.leaf 4) (.pair (.leaf 4) (.pair (.leaf 4) (.leaf 4)))) (.pair (.leaf 4) (.pair (.leaf 4) (.pair (.leaf 4) (.leaf 4))))],fun p=>Zek p.1 p.2⟩)
theorem rOver_i (x:(Rat×Rat×Rat×Rat)×Rat×Rat×Rat×Rat) (y:(Rat×Rat×Rat×Rat)×Rat×Rat×Rat×Rat):Zk ⟨Tryz.prog,[(38,0),(40,2),(42,3),(47,1),(49,4)],[Zdn],[],[],[],[],[]⟩ [] Tryz.f106 .no [.pair (.pair (.leaf 4) (.pair (.leaf 4) (.pair (.leaf 4) (.leaf 4)))) (.pair (.leaf 4) (.pair (.leaf 4) (.pair (.leaf 4) (.leaf 4)))),.pair (.pair (.leaf 4) (.pair (.leaf 4) (.pair (.leaf 4) (.leaf 4)))) (.pair (.leaf 4) (.pair (.leaf 4) (.pair (.leaf 4) (.leaf 4))))] [.pair (.pair (.leaf 4) (.pair (.leaf 4) (.pair (.leaf 4) (.leaf 4)))) (.pair (.leaf 4) (.pair (.leaf 4) (.pair (.leaf 4) (.leaf 4))))] (x,y)=Zek x y:=by kernel_rfl
theorem rOver_k:Zj Tryz.prog ZCm.1 ZCm.2:=Zm (C:=⟨Tryz.prog,[(38,0),(40,2),(42,3),(47,1),(49,4)],[Zdn],[],[],[],[],[]⟩) ⟨wDiv_k,trivial⟩ trivial trivial trivial (inl:=[]) trivial (ann:=.no) Tryz.func106 (fun _ _=>by kernel_rfl) rfl (fun v vals x z ha hz=>(rOver_i x.1 x.2).trans hz)
end Go.Eng
set_option maxRecDepth 100000
set_option maxHeartbeats 4000000
namespace Go.Eng
open Go.Proofs Go.RowKit
def ZMh:FuncId×Con:=(65,⟨[.slice (.slice (.pair (.pair (.leaf 4) (.pair (.leaf 4) (.pair (.leaf 4) (.leaf 4)))) (.pair (.leaf 4) (.pair (.leaf 4) (.pair (.leaf 4) (.leaf 4)))))),.int .i64],[.slice (.slice (.pair (.pair (.leaf 4) (.pair (.leaf 4) (.pair (.leaf 4) (.leaf 4)))) (.pair (.leaf 4) (.pair (.leaf 4) (.pair (.leaf 4) (.leaf 4)))))),.slice (.int .i64)],fun p=>ZMg p.1 p.2⟩)
theorem rForm_i (m:List (List ((Rat×Rat×Rat×Rat)×Rat×Rat×Rat×Rat))) (columns:Int):Zk ⟨Tryz.prog,[(38,0),(40,2),(42,3),(47,1),(49,4)],[ZXc,ZEf,Zri,ZCm],[30,31],[],[],[],[]⟩ [] Tryz.f65 (.two .no (.two .no (.two (.two .no (.two (.cut ⟨⟨[0,1],[],[.s 6 (.mat 31 53 (.pair (.pair (.leaf 4) (.pair (.leaf 4) (.pair (.leaf 4) (.leaf 4)))) (.pair (.leaf 4) (.pair (.leaf 4) (.pair (.leaf 4) (.leaf 4)))))),.s 7 (.dat (.int .i64))]⟩,[(.exit 0,⟨[1],[],[.s 6 (.mat 31 53 (.pair (.pair (.leaf 4) (.pair (.leaf 4) (.pair (.leaf 4) (.leaf 4)))) (.pair (.leaf 4) (.pair (.leaf 4) (.pair (.leaf 4) (.leaf 4))))))]⟩)]⟩ .no) .no)) (.two .no (.two (.two .no (.two (.cut ⟨⟨[1,6],[],[.s 8 (.own 3 (.int .i64)),.s 9 (.dat (.int .i64)),.l (.sl 6) (.mat 31 53 (.pair (.pair (.leaf 4) (.pair (.leaf 4) (.pair (.leaf 4) (.leaf 4)))) (.pair (.leaf 4) (.pair (.leaf 4) (.pair (.leaf 4) (.leaf 4))))))]⟩,[(.exit 2,⟨[6],[],[.s 8 (.own 3 (.int .i64)),.l (.sl 6) (.mat 31 53 (.pair (.pair (.leaf 4) (.pair (.leaf 4) (.pair (.leaf 4) (.leaf 4)))) (.pair (.leaf 4) (.pair (.leaf 4) (.pair (.leaf 4) (.leaf 4))))))]⟩)]⟩ (.two (.two .no (.two (.cut ⟨⟨[],[],[]⟩,[(.norm,⟨[1,6,9],[],[.s 8 (.own 3 (.int .i64)),.l (.sl 6) (.mat 31 53 (.pair (.pair (.leaf 4) (.pair (.leaf 4) (.pair (.leaf 4) (.leaf 4)))) (.pair (.leaf 4) (.pair (.leaf 4) (.pair (.leaf 4) (.leaf 4))))))]⟩)]⟩ (.two (.two .no (.two .no (.two (.two (.cut ⟨⟨[1,6,8,9,10],[],[.s 11 (.dat (.int .i64))]⟩,[(.exit 4,⟨[1,6,8,9,10],[],[.s 11 (.dat (.int .i64))]⟩)]⟩ (.two (.two (.two (.cut ⟨⟨[],[],[]⟩,[(.norm,⟨[1,6,8,9,10,11],[],[.s 53 (.dat .bool)]⟩)]⟩ .no) .no) .no) .no)) .no) (.two .no (.two .no (.two .no (.two (.two .no (.two (.cut ⟨⟨[1,6,8,9,10,12],[],[.s 13 (.dat (.int .i64)),.l (.sl 6) (.mat 31 53 (.pair (.pair (.leaf 4) (.pair (.leaf 4) (.pair (.leaf 4) (.leaf 4)))) (.pair (.leaf 4) (.pair (.leaf 4) (.pair (.leaf 4) (.leaf 4))))))]⟩,[(.exit 6,⟨[1,6,8,9,10],[],[.l (.sl 6) (.mat 31 53 (.pair (.pair (.leaf 4) (.pair (.leaf 4) (.pair (.leaf 4) (.leaf 4)))) (.pair (.leaf 4) (.pair (.leaf 4) (.pair (.leaf 4) (.leaf 4))))))]⟩)]⟩ .no) .no)) (.two (.two .no (.two (.cut ⟨⟨[1,6,8,9,10],[],[.s 14 (.dat (.int .i64)),.l (.sl 6) (.mat 31 53 (.pair (.pair (.leaf 4) (.pair (.leaf 4) (.pair (.leaf 4) (.leaf 4)))) (.pair (.leaf 4) (.pair (.leaf 4) (.pair (.leaf 4) (.leaf 4))))))]⟩,[(.exit 8,⟨[1,6,8,9],[],[.l (.sl 6) (.mat 31 53 (.pair (.pair (.leaf 4) (.pair (.leaf 4) (.pair (.leaf 4) (.leaf 4)))) (.pair (.leaf 4) (.pair (.leaf 4) (.pair (.leaf 4) (.leaf 4))))))]⟩)]⟩ (.two (.two .no (.two (.cut ⟨⟨[],[],[]⟩,[(.norm,⟨[1,6,8,9,10,14],[],[.l (.sl 6) (.mat 31 53 (.pair (.pair (.leaf 4) (.pair (.leaf 4) (.pair (.leaf 4) (.leaf 4)))) (.pair (.leaf 4) (.pair (.leaf 4) (.pair (.leaf 4) (.leaf 4))))))]⟩)]⟩ (.two (.two .no (.two .no (.two .no (.two (.cut ⟨⟨[1,6,8,9,10,14,15],[],[.s 16 (.dat (.int .i64)),.l (.sl 6) (.mat 31 53 (.pair (.pair (.leaf 4) (.pair (.leaf 4) (.pair (.leaf 4) (.leaf 4)))) (.pair (.leaf 4) (.pair (.leaf 4) (.pair (.leaf 4) (.leaf 4))))))]⟩,[(.exit 10,⟨[1,6,8,9,10,14],[],[.l (.sl 6) (.mat 31 53 (.pair (.pair (.leaf 4) (.pair (.leaf 4) (.pair (.leaf 4) (.leaf 4)))) (.pair (.leaf 4) (.pair (.leaf 4) (.pair (.leaf 4) (.leaf 4))))))]⟩)]⟩ .no) .no)))) .no)) .no)) .no)) .no)) .no)))))))) .no)) .no)) .no)) .no)) .no))))) [.slice (.slice (.pair (.pair (.leaf 4) (.pair (.leaf 4) (.pair (.leaf 4) (.leaf 4)))) (.pair (.leaf 4) (.pair (.leaf 4) (.pair (.leaf 4) (.leaf 4)))))),.int .i64] [.slice (.slice (.pair (.pair (.leaf 4) (.pair (.leaf 4) (.pair (.leaf 4) (.leaf 4)))) (.pair (.leaf 4) (.pair (.leaf 4) (.pair (.leaf 4) (.leaf 4)))))),.slice (.int .i64)] (m,columns)=ZMg m columns:=by kernel_rfl
theorem Zbt:Zj Tryz.prog ZMh.1 ZMh.2:=Zm (C:=⟨Tryz.prog,[(38,0),(40,2),(42,3),(47,1),(49,4)],[ZXc,ZEf,Zri,ZCm],[30,31],[],[],[],[]⟩) ⟨Z3i,Ztp,ZEq,rOver_k,trivial⟩ trivial trivial trivial (inl:=[]) trivial (ann:=(.two .no (.two .no (.two (.two .no (.two (.cut ⟨⟨[0,1],[],[.s 6 (.mat 31 53 (.pair (.pair (.leaf 4) (.pair (.leaf 4) (.pair (.leaf 4) (.leaf 4)))) (.pair (.leaf 4) (.pair (.leaf 4) (.pair (.leaf 4) (.leaf 4)))))),.s 7 (.dat (.int .i64))]⟩,[(.exit 0,⟨[1],[],[.s 6 (.mat 31 53 (.pair (.pair (.leaf 4) (.pair (.leaf 4) (.pair (.leaf 4) (.leaf 4)))) (.pair (.leaf 4) (.pair (.leaf 4) (.pair (.leaf 4) (.leaf 4))))))]⟩)]⟩ .no) .no)) (.two .no (.two (.two .no (.two (.cut ⟨⟨[1,6],[],[.s 8 (.own 3 (.int .i64)),.s 9 (.dat (.int .i64)),.l (.sl 6) (.mat 31 53 (.pair (.pair (.leaf 4) (.pair (.leaf 4) (.pair (.leaf 4) (.leaf 4)))) (.pair (.leaf 4) (.pair (.leaf 4) (.pair (.leaf 4) (.leaf 4))))))]⟩,[(.exit 2,⟨[6],[],[.s 8 (.own 3 (.int .i64)),.l (.sl 6) (.mat 31 53 (.pair (.pair (.leaf 4) (.pair (.leaf 4) (.pair (.leaf 4) (.leaf 4)))) (.pair (.leaf 4) (.pair (.leaf 4) (.pair (.leaf 4) (.leaf 4))))))]⟩)]⟩ (.two (.two .no (.two (.cut ⟨⟨[],[],[]⟩,[(.norm,⟨[1,6,9],[],[.s 8 (.own 3 (.int .i64)),.l (.sl 6) (.mat 31 53 (.pair (.pair (.leaf 4) (.pair (.leaf 4) (.pair (.leaf 4) (.leaf 4)))) (.pair (.leaf 4) (.pair (.leaf 4) (.pair (.leaf 4) (.leaf 4))))))]⟩)]⟩ (.two (.two .no (.two .no (.two (.two (.cut ⟨⟨[1,6,8,9,10],[],[.s 11 (.dat (.int .i64))]⟩,[(.exit 4,⟨[1,6,8,9,10],[],[.s 11 (.dat (.int .i64))]⟩)]⟩ (.two (.two (.two (.cut ⟨⟨[],[],[]⟩,[(.norm,⟨[1,6,8,9,10,11],[],[.s 53 (.dat .bool)]⟩)]⟩ .no) .no) .no) .no)) .no) (.two .no (.two .no (.two .no (.two (.two .no (.two (.cut ⟨⟨[1,6,8,9,10,12],[],[.s 13 (.dat (.int .i64)),.l (.sl 6) (.mat 31 53 (.pair (.pair (.leaf 4) (.pair (.leaf 4) (.pair (.leaf 4) (.leaf 4)))) (.pair (.leaf 4) (.pair (.leaf 4) (.pair (.leaf 4) (.leaf 4))))))]⟩,[(.exit 6,⟨[1,6,8,9,10],[],[.l (.sl 6) (.mat 31 53 (.pair (.pair (.leaf 4) (.pair (.leaf 4) (.pair (.leaf 4) (.leaf 4)))) (.pair (.leaf 4) (.pair (.leaf 4) (.pair (.leaf 4) (.leaf 4))))))]⟩)]⟩ .no) .no)) (.two (.two .no (.two (.cut ⟨⟨[1,6,8,9,10],[],[.s 14 (.dat (.int .i64)),.l (.sl 6) (.mat 31 53 (.pair (.pair (.leaf 4) (.pair (.leaf 4) (.pair (.leaf 4) (.leaf 4)))) (.pair (.leaf 4) (.pair (.leaf 4) (.pair (.leaf 4) (.leaf 4))))))]⟩,[(.exit 8,⟨[1,6,8,9],[],[.l (.sl 6) (.mat 31 53 (.pair (.pair (.leaf 4) (.pair (.leaf 4) (.pair (.leaf 4) (.leaf 4)))) (.pair (.leaf 4) (.pair (.leaf 4) (.pair (.leaf 4) (.leaf 4))))))]⟩)]⟩ (.two (.two .no (.two (.cut ⟨⟨[],[],[]⟩,[(.norm,⟨[1,6,8,9,10,14],[],[.l (.sl 6) (.mat 31 53 (.pair (.pair (.leaf 4) (.pair (.leaf 4) (.pair (.leaf 4) (.leaf 4)))) (.pair (.leaf 4) (.pair (.leaf 4) (.pair (.leaf 4) (.leaf 4))))))]⟩)]⟩ (.two (.two .no (.two .no (.two .no (.two (.cut ⟨⟨[1,6,8,9,10,14,15],[],[.s 16 (.dat (.int .i64)),.l (.sl 6) (.mat 31 53 (.pair (.pair (.leaf 4) (.pair (.leaf 4) (.pair (.leaf 4) (.leaf 4)))) (.pair (.leaf 4) (.pair (.leaf 4) (.pair (.leaf 4) (.leaf 4))))))]⟩,[(.exit 10,⟨[1,6,8,9,10,14],[],[.l (.sl 6) (.mat 31 53 (.pair (.pair (.leaf 4) (.pair (.leaf 4) (.pair (.leaf 4) (.leaf 4)))) (.pair (.leaf 4) (.pair (.leaf 4) (.pair (.leaf 4) (.leaf 4))))))]⟩)]⟩ .no) .no)))) .no)) .no)) .no)) .no)) .no)))))))) .no)) .no)) .no)) .no)) .no)))))) Tryz.func65 (fun _ _=>by kernel_rfl) rfl (fun v vals x z ha hz=>(rForm_i x.1 x.2).trans hz)
end Go.Eng
set_option maxRecDepth 100000
set_option maxHeartbeats 4000000
namespace Go.Eng
open Go.Proofs Go.RowKit
def Z1m:FuncId×Con:=(66,⟨[.slice (.slice (.pair (.pair (.leaf 4) (.pair (.leaf 4) (.pair (.leaf 4) (.leaf 4)))) (.pair (.leaf 4) (.pair (.leaf 4) (.pair (.leaf 4) (.leaf 4)))))),.slice (.pair (.pair (.leaf 4) (.pair (.leaf 4) (.pair (.leaf 4) (.leaf 4)))) (.pair (.leaf 4) (.pair (.leaf 4) (.pair (.leaf 4) (.leaf 4)))))],[.slice (.pair (.pair (.leaf 4) (.pair (.leaf 4) (.pair (.leaf 4) (.leaf 4)))) (.pair (.leaf 4) (.pair (.leaf 4) (.pair (.leaf 4) (.leaf 4))))),.int .i64],fun p=>Z0f p.1 p.2⟩)
theorem rAny_i (m:List (List ((Rat×Rat×Rat×Rat)×Rat×Rat×Rat×Rat))) (b:List ((Rat×Rat×Rat×Rat)×Rat×Rat×Rat×Rat)):Zk ⟨Tryz.prog,[(38,0),(40,2),(42,3),(47,1),(49,4)],[Z3h,Zmh,ZXc,ZBf,ZMh],[46,47],[],[],[],[]⟩ [] Tryz.f66 (.two .no (.two (.two (.cut ⟨⟨[],[],[]⟩,[(.norm,⟨[0,1],[],[.s 24 (.dat .bool)]⟩)]⟩ .no) .no) (.two .no (.two .no (.two (.two .no (.two (.cut ⟨⟨[0,1,6],[],[.s 7 (.mat 31 53 (.pair (.pair (.leaf 4) (.pair (.leaf 4) (.pair (.leaf 4) (.leaf 4)))) (.pair (.leaf 4) (.pair (.leaf 4) (.pair (.leaf 4) (.leaf 4)))))),.s 8 (.dat (.int .i64))]⟩,[(.exit 0,⟨[6],[],[.s 7 (.mat 31 53 (.pair (.pair (.leaf 4) (.pair (.leaf 4) (.pair (.leaf 4) (.leaf 4)))) (.pair (.leaf 4) (.pair (.leaf 4) (.pair (.leaf 4) (.leaf 4))))))]⟩)]⟩ .no) .no)) (.two .no (.two (.two .no (.two (.cut ⟨⟨[6,9,10],[],[.s 11 (.dat (.int .i64))]⟩,[(.exit 2,⟨[6,9,10],[],[]⟩),(.ret,⟨[],[],[.s 1000 (.dat (.slice (.pair (.pair (.leaf 4) (.pair (.leaf 4) (.pair (.leaf 4) (.leaf 4)))) (.pair (.leaf 4) (.pair (.leaf 4) (.pair (.leaf 4) (.leaf 4))))))),.s 1001 (.dat (.int .i64))]⟩)]⟩ .no) .no)) (.two .no (.two (.two .no (.two (.cut ⟨⟨[6,9,10],[],[.s 12 (.own 53 (.pair (.pair (.leaf 4) (.pair (.leaf 4) (.pair (.leaf 4) (.leaf 4)))) (.pair (.leaf 4) (.pair (.leaf 4) (.pair (.leaf 4) (.leaf 4)))))),.s 13 (.dat (.int .i64))]⟩,[(.exit 4,⟨[6,9,10],[],[.s 12 (.own 53 (.pair (.pair (.leaf 4) (.pair (.leaf 4) (.pair (.leaf 4) (.leaf 4)))) (.pair (.leaf 4) (.pair (.leaf 4) (.pair (.leaf 4) (.leaf 4))))))]⟩)]⟩ .no) .no)) (.two (.two .no (.two (.cut ⟨⟨[6,9,10,12],[],[.s 14 (.dat (.int .i64)),.l (.sl 12) (.own 53 (.pair (.pair (.leaf 4) (.pair (.leaf 4) (.pair (.leaf 4) (.leaf 4)))) (.pair (.leaf 4) (.pair (.leaf 4) (.pair (.leaf 4) (.leaf 4))))))]⟩,[(.exit 6,⟨[12],[],[.l (.sl 12) (.own 53 (.pair (.pair (.leaf 4) (.pair (.leaf 4) (.pair (.leaf 4) (.leaf 4)))) (.pair (.leaf 4) (.pair (.leaf 4) (.pair (.leaf 4) (.leaf 4))))))]⟩)]⟩ .no) .no)) .no)))))))))) [.slice (.slice (.pair (.pair (.leaf 4) (.pair (.leaf 4) (.pair (.leaf 4) (.leaf 4)))) (.pair (.leaf 4) (.pair (.leaf 4) (.pair (.leaf 4) (.leaf 4)))))),.slice (.pair (.pair (.leaf 4) (.pair (.leaf 4) (.pair (.leaf 4) (.leaf 4)))) (.pair (.leaf 4) (.pair (.leaf 4) (.pair (.leaf 4) (.leaf 4)))))] [.slice (.pair (.pair (.leaf 4) (.pair (.leaf 4) (.pair (.leaf 4) (.leaf 4)))) (.pair (.leaf 4) (.pair (.leaf 4) (.pair (.leaf 4) (.leaf 4))))),.int .i64] (m,b)=Z0f m b:=by kernel_rfl
theorem rAny_k:Zj Tryz.prog Z1m.1 Z1m.2:=Zm (C:=⟨Tryz.prog,[(38,0),(40,2),(42,3),(47,1),(49,4)],[Z3h,Zmh,ZXc,ZBf,ZMh],[46,47],[],[],[],[]⟩) ⟨ZUs,ZKt,Z3i,ZVn,Zbt,trivial⟩ trivial trivial trivial (inl:=[]) trivial (ann:=(.two .no (.two (.two (.cut ⟨⟨[],[],[]⟩,[(.norm,⟨[0,1],[],[.s 24 (.dat .bool)]⟩)]⟩ .no) .no) (.two .no (.two .no (.two (.two .no (.two (.cut ⟨⟨[0,1,6],[],[.s 7 (.mat 31 53 (.pair (.pair (.leaf 4) (.pair (.leaf 4) (.pair (.leaf 4) (.leaf 4)))) (.pair (.leaf 4) (.pair (.leaf 4) (.pair (.leaf 4) (.leaf 4)))))),.s 8 (.dat (.int .i64))]⟩,[(.exit 0,⟨[6],[],[.s 7 (.mat 31 53 (.pair (.pair (.leaf 4) (.pair (.leaf 4) (.pair (.leaf 4) (.leaf 4)))) (.pair (.leaf 4) (.pair (.leaf 4) (.pair (.leaf 4) (.leaf 4))))))]⟩)]⟩ .no) .no)) (.two .no (.two (.two .no (.two (.cut ⟨⟨[6,9,10],[],[.s 11 (.dat (.int .i64))]⟩,[(.exit 2,⟨[6,9,10],[],[]⟩),(.ret,⟨[],[],[.s 1000 (.dat (.slice (.pair (.pair (.leaf 4) (.pair (.leaf 4) (.pair (.leaf 4) (.leaf 4)))) (.pair (.leaf 4) (.pair (.leaf 4) (.pair (.leaf 4) (.leaf 4))))))),.s 1001 (.dat (.int .i64))]⟩)]⟩ .no) .no)) (.two .no (.two (.two .no (.two (.cut ⟨⟨[6,9,10],[],[.s 12 (.own 53 (.pair (.pair (.leaf 4) (.pair (.leaf 4) (.pair (.leaf 4) (.leaf 4)))) (.pair (.leaf 4) (.pair (.leaf 4) (.pair (.leaf 4) (.leaf 4)))))),.s 13 (.dat (.int .i64))]⟩,[(.exit 4,⟨[6,9,10],[],[.s 12 (.own 53 (.pair (.pair (.leaf 4) (.pair (.leaf 4) (.pair (.leaf 4) (.leaf 4)))) (.pair (.leaf 4) (.pair (.leaf 4) (.pair (.leaf 4) (.leaf 4))))))]⟩)]⟩ .no) .no)) (.two (.two .no (.two (.cut ⟨⟨[6,9,10,12],[],[.s 14 (.dat (.int .i64)),.l (.sl 12) (.own 53 (.pair (.pair (.leaf 4) (.pair (.leaf 4) (.pair (.leaf 4) (.leaf 4)))) (.pair (.leaf 4) (.pair (.leaf 4) (.pair (.leaf 4) (.leaf 4))))))]⟩,[(.exit 6,⟨[12],[],[.l (.sl 12) (.own 53 (.pair (.pair (.leaf 4) (.pair (.leaf 4) (.pair (.leaf 4) (.leaf 4)))) (.pair (.leaf 4) (.pair (.leaf 4) (.pair (.leaf 4) (.leaf 4))))))]⟩)]⟩ .no) .no)) .no))))))))))) Tryz.func66 (fun _ _=>by kernel_rfl) rfl (fun v vals x z ha hz=>(rAny_i x.1 x.2).trans hz)
end Go.Eng
set_option maxRecDepth 100000
set_option maxHeartbeats 4000000
namespace Go.Eng
open Go.Proofs Go.RowKit
def ZCi:FuncId×Con:=(18,⟨[.slice (.slice (.pair (.pair (.leaf 4) (.pair (.leaf 4) (.pair (.leaf 4) (.leaf 4)))) (.pair (.leaf 4) (.pair (.leaf 4) (.pair (.leaf 4) (.leaf 4)))))),.slice (.pair (.pair (.leaf 4) (.pair (.leaf 4) (.pair (.leaf 4) (.leaf 4)))) (.pair (.leaf 4) (.pair (.leaf 4) (.pair (.leaf 4) (.leaf 4)))))],[.slice (.pair (.pair (.leaf 4) (.pair (.leaf 4) (.pair (.leaf 4) (.leaf 4)))) (.pair (.leaf 4) (.pair (.leaf 4) (.pair (.leaf 4) (.leaf 4))))),.int .i64],fun p=>Zhc p.1 p.2⟩)
theorem Zpz (m:List (List ((Rat×Rat×Rat×Rat)×Rat×Rat×Rat×Rat))) (b:List ((Rat×Rat×Rat×Rat)×Rat×Rat×Rat×Rat)):Zk ⟨Tryz.prog,[(38,0),(40,2),(42,3),(47,1),(49,4)],[Zsf,ZMh,Z1m],[],[],[],[],[]⟩ [] Tryz.f18 (.two .no (.two (.two (.cut ⟨⟨[],[],[]⟩,[(.norm,⟨[0,1],[],[.s 17 (.dat .bool)]⟩)]⟩ .no) .no) .no)) [.slice (.slice (.pair (.pair (.leaf 4) (.pair (.leaf 4) (.pair (.leaf 4) (.leaf 4)))) (.pair (.leaf 4) (.pair (.leaf 4) (.pair (.leaf 4) (.leaf 4)))))),.slice (.pair (.pair (.leaf 4) (.pair (.leaf 4) (.pair (.leaf 4) (.leaf 4)))) (.pair (.leaf 4) (.pair (.leaf 4) (.pair (.leaf 4) (.leaf 4)))))] [.slice (.pair (.pair (.leaf 4) (.pair (.leaf 4) (.pair (.leaf 4) (.leaf 4)))) (.pair (.leaf 4) (.pair (.leaf 4) (.pair (.leaf 4) (.leaf 4))))),.int .i64] (m,b)=Zhc m b:=by kernel_rfl
theorem ZIq:Zj Tryz.prog ZCi.1 ZCi.2:=Zm (C:=⟨Tryz.prog,[(38,0),(40,2),(42,3),(47,1),(49,4)],[Zsf,ZMh,Z1m],[],[],[],[],[]⟩) ⟨ZBo,Zbt,rAny_k,trivial⟩ trivial trivial trivial (inl:=[]) trivial (ann:=(.two .no (.two (.two (.cut ⟨⟨[],[],[]⟩,[(.norm,⟨[0,1],[],[.s 17 (.dat .bool)]⟩)]⟩ .no) .no) .no))) Tryz.func18 (fun _ _=>by kernel_rfl) rfl (fun v vals x z ha hz=>(Zpz x.1 x.2).trans hz)
end Go.Eng
set_option maxRecDepth 100000
set_option maxHeartbeats 4000000
namespace Go.Eng
open Go.Proofs Go.RowKit
def Zmn:FuncId×Con:=(26,⟨[.int .i64],[.slice (.slice (.leaf 3))],fun p=>Zsi p⟩)
theorem Zhv (n:Int):Zk ⟨Tryz.prog,[(38,0),(40,2),(42,3),(47,1),(49,4)],[ZCb],[9],[Zwc],[],[],[]⟩ [] Tryz.f26 (.two .no (.two .no (.two .no (.two (.two .no (.two (.cut ⟨⟨[0,3,11],[],[.s 12 (.dat (.int .i64)),.l (.sl 3) (.mat 30 42 (.leaf 3))]⟩,[(.exit 0,⟨[3],[],[.l (.sl 3) (.mat 30 42 (.leaf 3))]⟩)]⟩ .no) .no)) .no)))) [.int .i64] [.slice (.slice (.leaf 3))] (n)=Zsi n:=by kernel_rfl
theorem ZAz:Zj Tryz.prog Zmn.1 Zmn.2:=Zm (C:=⟨Tryz.prog,[(38,0),(40,2),(42,3),(47,1),(49,4)],[ZCb],[9],[Zwc],[],[],[]⟩) ⟨Zeg,trivial⟩ ⟨Zvi,trivial⟩ trivial trivial (inl:=[]) trivial (ann:=(.two .no (.two .no (.two .no (.two (.two .no (.two (.cut ⟨⟨[0,3,11],[],[.s 12 (.dat (.int .i64)),.l (.sl 3) (.mat 30 42 (.leaf 3))]⟩,[(.exit 0,⟨[3],[],[.l (.sl 3) (.mat 30 42 (.leaf 3))]⟩)]⟩ .no) .no)) .no))))) Tryz.func26 (fun _ _=>by kernel_rfl) rfl (fun v vals x z ha hz=>(Zhv x).trans hz)
end Go.Eng
set_option maxRecDepth 100000
set_option maxHeartbeats 4000000
namespace Go.Eng
open Go.Proofs Go.RowKit
def Zrk:FuncId×Con:=(19,⟨[.slice (.slice (.leaf 3))],[.slice (.slice (.leaf 3)),.int .i64],fun p=>Zge p⟩)
theorem ZNu (m : List (List Rat)) : Zk ⟨Tryz.prog, [(38, 0), (40, 2), (42, 3), (47, 1), (49, 4)], [Zmn, Z1f, Zti, ZCb, ZUc, Zbg, Z4c, Zlc, Zoe], [8, 100045], [Z3c], [], [((42, "Div"), 218), ((42, "Mul"), 219), ((42, "Neg"), 221), ((42, "Sub"), 224), ((42, "Zero"), 172)], []⟩ [(44, Tryz.f44, .cut ⟨⟨[], [], []⟩, [(.ret, ⟨[], [], [.s 1000 (.dat (.int .i64))]⟩)]⟩ .no), (58, Tryz.f58, .two .no (.two .no (.two .no (.two .no (.two (.two .no (.two (.cut ⟨⟨[0, 4, 6, 19], [], [.s 5 (.own 3 (.int .i64)), .s 20 (.dat (.int .i64)), .l (.sl 0) (.mat 30 42 (.leaf 3)), .l (.sl 6) (.box 42 (.dat (.leaf 3)))]⟩, [(.exit 0, ⟨[0, 4, 6], [], [.s 5 (.own 3 (.int .i64)), .l (.sl 0) (.mat 30 42 (.leaf 3)), .l (.sl 6) (.box 42 (.dat (.leaf 3)))]⟩)]⟩ (.two (.two .no (.two .no (.two (.cut ⟨⟨[], [], []⟩, [(.norm, ⟨[0, 4, 6, 19, 20], [], [.s 5 (.own 3 (.int .i64)), .l (.sl 0) (.mat 30 42 (.leaf 3)), .l (.sl 6) (.box 42 (.dat (.leaf 3)))]⟩)]⟩ (.two (.two .no (.two .no (.two .no (.two (.two (.cut ⟨⟨[0, 4, 5, 6, 7, 8, 19, 20], [], [.s 9 (.dat (.int .i64))]⟩, [(.exit 2, ⟨[0, 4, 5, 6, 7, 8, 19, 20], [], [.s 9 (.dat (.int .i64))]⟩)]⟩ (.two (.two (.two (.cut ⟨⟨[], [], []⟩, [(.norm, ⟨[0, 4, 5, 6, 7, 8, 9, 19, 20], [], [.s 40 (.dat .bool)]⟩)]⟩ .no) .no) .no) .no)) .no) (.two .no (.two (.two .no (.cut ⟨⟨[], [], []⟩, [(.norm, ⟨[0, 4, 5, 6, 7, 8, 19, 20], [], [.l (.sl 0) (.mat 30 42 (.leaf 3)), .l (.sl 6) (.box 42 (.dat (.leaf 3)))]⟩)]⟩ .no)) (.two .no (.two .no (.two (.two .no (.two (.cut ⟨⟨[0, 4, 5, 6, 7, 8, 10, 19, 20, 83], [], [.s 84 (.dat (.int .i64)), .l (.sl 0) (.mat 30 42 (.leaf 3))]⟩, [(.exit 4, ⟨[0, 4, 5, 6, 7, 8, 19, 20], [], [.l (.sl 0) (.mat 30 42 (.leaf 3))]⟩)]⟩ .no) .no)) (.two (.two .no (.two (.cut ⟨⟨[0, 4, 5, 6, 7, 8, 19, 20, 108], [], [.s 109 (.dat (.int .i64)), .l (.sl 0) (.mat 30 42 (.leaf 3))]⟩, [(.exit 6, ⟨[0, 4, 5, 6, 7, 19, 20], [], [.l (.sl 0) (.mat 30 42 (.leaf 3))]⟩)]⟩ (.two (.two .no (.two .no (.two (.cut ⟨⟨[], [], []⟩, [(.norm, ⟨[0, 4, 5, 6, 7, 8, 19, 20, 108, 109], [], [.l (.sl 0) (.mat 30 42 (.leaf 3))]⟩)]⟩ (.two (.two .no (.two .no (.two (.two (.cut ⟨⟨[], [], []⟩, [(.norm, ⟨[0, 4, 5, 6, 7, 8, 12, 13, 19, 20, 108, 109], [], [.s 126 (.dat .bool)]⟩)]⟩ .no) .no) (.two .no (.two (.cut ⟨⟨[0, 4, 5, 6, 7, 8, 12, 13, 19, 20, 108, 109, 131], [], [.s 132 (.dat (.int .i64)), .l (.sl 0) (.mat 30 42 (.leaf 3))]⟩, [(.exit 8, ⟨[0, 4, 5, 6, 7, 8, 19, 20, 108, 109], [], [.l (.sl 0) (.mat 30 42 (.leaf 3))]⟩)]⟩ .no) .no))))) .no)) .no))) .no)) .no)) .no)))))))))) .no)) .no))) .no)) .no)) .no))))), (101, Tryz.f101, .two .no (.two .no (.two (.two .no (.two (.cut ⟨⟨[3, 9, 10], [], [.s 11 (.dat (.int .i64)), .l (.sl 3) (.mat 30 42 (.leaf 3))]⟩, [(.exit 0, ⟨[3], [], [.l (.sl 3) (.mat 30 42 (.leaf 3))]⟩)]⟩ .no) .no)) .no)))] Tryz.f19 (.two .no (.two .no (.two .no (.two .no (.two (.two (.cut ⟨⟨[], [], []⟩, [(.norm, ⟨[4, 5], [], [.s 34 (.dat .bool)]⟩)]⟩ .no) .no) (.two (.two .no (.two (.cut ⟨⟨[4, 5, 36], [], [.s 37 (.dat (.int .i64)), .l (.sl 5) (.mat 30 42 (.leaf 3))]⟩, [(.exit 0, ⟨[5], [], [.l (.sl 5) (.mat 30 42 (.leaf 3))]⟩)]⟩ .no) .no)) .no)))))) [.slice (.slice (.leaf 3))] [.slice (.slice (.leaf 3)), .int .i64] (m) = Zge m := by kernel_rfl
theorem Zgw : Zj Tryz.prog Zrk.1 Zrk.2 := Zm (C := ⟨Tryz.prog, [(38, 0), (40, 2), (42, 3), (47, 1), (49, 4)], [Zmn, Z1f, Zti, ZCb, ZUc, Zbg, Z4c, Zlc, Zoe], [8, 100045], [Z3c], [], [((42, "Div"), 218), ((42, "Mul"), 219), ((42, "Neg"), 221), ((42, "Sub"), 224), ((42, "Zero"), 172)], []⟩) ⟨ZAz, Z6p, Zsu, Zeg, ZOi, ZQp, Z7i, Zdh, ZGm, trivial⟩ ⟨Z8i, trivial⟩ trivial ⟨ZEp, ZSi, Zck, Zmp, Zll, trivial⟩ (inl := [(44, Tryz.f44, .cut ⟨⟨[], [], []⟩, [(.ret, ⟨[], [], [.s 1000 (.dat (.int .i64))]⟩)]⟩ .no), (58, Tryz.f58, .two .no (.two .no (.two .no (.two .no (.two (.two .no (.two (.cut ⟨⟨[0, 4, 6, 19], [], [.s 5 (.own 3 (.int .i64)), .s 20 (.dat (.int .i64)), .l (.sl 0) (.mat 30 42 (.leaf 3)), .l (.sl 6) (.box 42 (.dat (.leaf 3)))]⟩, [(.exit 0, ⟨[0, 4, 6], [], [.s 5 (.own 3 (.int .i64)), .l (.sl 0) (.mat 30 42 (.leaf 3)), .l (.sl 6) (.box 42 (.dat (.leaf 3)))]⟩)]⟩ (.two (.two .no (.two .no (.two (.cut ⟨⟨[], [], []⟩, [(.norm, ⟨[0, 4, 6, 19, 20], [], [.s 5 (.own 3 (.int .i64)), .l (.sl 0) (.mat 30 42 (.leaf 3)), .l (.sl 6) (.box 42 (.dat (.leaf 3)))]⟩)]⟩ (.two (.two .no (.two .no (.two .no (.two (.two (.cut ⟨⟨[0, 4, 5, 6, 7, 8, 19, 20], [], [.s 9 (.dat (.int .i64))]⟩, [(.exit 2, ⟨[0, 4, 5, 6, 7, 8, 19, 20], [], [.s 9 (.dat (.int .i64))]⟩)]⟩ (.two (.two (.two (.cut ⟨⟨[], [], []⟩, [(.norm, ⟨[0, 4, 5, 6, 7, 8, 9, 19, 20], [], [.s 40 (.dat .bool)]⟩)]⟩ .no) .no) .no) .no)) .no) (.two .no (.two (.two .no (.cut ⟨⟨[], [], []⟩, [(.norm, ⟨[0, 4, 5, 6, 7, 8, 19, 20], [], [.l (.sl 0) (.mat 30 42 (.leaf 3)), .l (.sl 6) (.box 42 (.dat (.leaf 3)))]⟩)]⟩ .no)) (.two .no (.two .no (.two (.two .no (.two (.cut ⟨⟨[0, 4, 5, 6, 7, 8, 10, 19, 20, 83], [], [.s 84 (.dat (.int .i64)), .l (.sl 0) (.mat 30 42 (.leaf 3))]⟩, [(.exit 4, ⟨[0, 4, 5, 6, 7, 8, 19, 20], [], [.l (.sl 0) (.mat 30 42 (.leaf 3))]⟩)]⟩ .no) .no)) (.two (.two .no (.two (.cut ⟨⟨[0, 4, 5, 6, 7, 8, 19, 20, 108], [], [.s 109 (.dat (.int .i64)), .l (.sl 0) (.mat 30 42 (.leaf 3))]⟩, [(.exit 6, ⟨[0, 4, 5, 6, 7, 19, 20], [], [.l (.sl 0) (.mat 30 42 (.leaf 3))]⟩)]⟩ (.two (.two .no (.two .no (.two (.cut ⟨⟨[], [], []⟩, [(.norm, ⟨[0, 4, 5, 6, 7, 8, 19, 20, 108, 109], [], [.l (.sl 0) (.mat 30 42 (.leaf 3))]⟩)]⟩ (.two (.two .no (.two .no (.two (.two (.cut ⟨⟨[], [], []⟩, [(.norm, ⟨[0, 4, 5, 6, 7, 8, 12, 13, 19, 20, 108, 109], [], [.s 126 (.dat .bool)]⟩)]⟩ .no) .no) (.two .no (.two (.cut ⟨⟨[0, 4, 5, 6, 7, 8, 12, 13, 19, 20, 108, 109, 131], [], [.s 132 (.dat (.int .i64)), .l (.sl 0) (.mat 30 42 (.leaf 3))]⟩, [(.exit 8, ⟨[0, 4, 5, 6, 7, 8, 19, 20, 108, 109], [], [.l (.sl 0) (.mat 30 42 (.leaf 3))]⟩)]⟩ .no) .no))))) .no)) .no))) .no)) .no)) .no)))))))))) .no)) .no))) .no)) .no)) .no))))), (101, Tryz.f101, .two .no (.two .no (.two (.two .no (.two (.cut ⟨⟨[3, 9, 10], [], [.s 11 (.dat (.int .i64)), .l (.sl 3) (.mat 30 42 (.leaf 3))]⟩, [(.exit 0, ⟨[3], [], [.l (.sl 3) (.mat 30 42 (.leaf 3))]⟩)]⟩ .no) .no)) .no)))]) ⟨⟨Tryz.func44, fun _ _ => by kernel_rfl⟩, ⟨Tryz.func58, fun _ _ => by kernel_rfl⟩, ⟨Tryz.func101, fun _ _ => by kernel_rfl⟩, trivial⟩ (ann := (.two .no (.two .no (.two .no (.two .no (.two (.two (.cut ⟨⟨[], [], []⟩, [(.norm, ⟨[4, 5], [], [.s 34 (.dat .bool)]⟩)]⟩ .no) .no) (.two (.two .no (.two (.cut ⟨⟨[4, 5, 36], [], [.s 37 (.dat (.int .i64)), .l (.sl 5) (.mat 30 42 (.leaf 3))]⟩, [(.exit 0, ⟨[5], [], [.l (.sl 5) (.mat 30 42 (.leaf 3))]⟩)]⟩ .no) .no)) .no))))))) Tryz.func19 (fun _ _ => by kernel_rfl) rfl (fun v vals x z ha hz => (ZNu x).trans hz)
end Go.Eng
set_option maxRecDepth 100000
set_option maxHeartbeats 4000000
namespace Go.Eng
open Go.Proofs Go.RowKit
def Zni:FuncId×ConM:=(69,⟨[.int .i64,.int .i64],31,53,.pair (.pair (.leaf 4) (.pair (.leaf 4) (.pair (.leaf 4) (.leaf 4)))) (.pair (.leaf 4) (.pair (.leaf 4) (.pair (.leaf 4) (.leaf 4)))),fun p=>Zmi p.1 p.2⟩)
theorem ZHy (rows:Int) (columns:Int):Zfj ⟨Tryz.prog,[(38,0),(40,2),(42,3),(47,1),(49,4)],[ZBf],[9],[],[],[],[]⟩ [] Tryz.f69 (.two .no (.two .no (.two (.two .no (.two (.cut ⟨⟨[0,1,5],[],[.s 6 (.dat (.int .i64)),.l (.sl 5) (.mat 31 53 (.pair (.pair (.leaf 4) (.pair (.leaf 4) (.pair (.leaf 4) (.leaf 4)))) (.pair (.leaf 4) (.pair (.leaf 4) (.pair (.leaf 4) (.leaf 4))))))]⟩,[(.exit 0,⟨[5],[],[.l (.sl 5) (.mat 31 53 (.pair (.pair (.leaf 4) (.pair (.leaf 4) (.pair (.leaf 4) (.leaf 4)))) (.pair (.leaf 4) (.pair (.leaf 4) (.pair (.leaf 4) (.leaf 4))))))]⟩)]⟩ (.two (.two .no (.two (.two (.two .no (.two (.cut ⟨⟨[0,1,5,6],[],[.s 7 (.dat (.int .i64)),.l (.sl 5) (.mat 31 53 (.pair (.pair (.leaf 4) (.pair (.leaf 4) (.pair (.leaf 4) (.leaf 4)))) (.pair (.leaf 4) (.pair (.leaf 4) (.pair (.leaf 4) (.leaf 4))))))]⟩,[(.exit 2,⟨[0,1,5,6],[],[.l (.sl 5) (.mat 31 53 (.pair (.pair (.leaf 4) (.pair (.leaf 4) (.pair (.leaf 4) (.leaf 4)))) (.pair (.leaf 4) (.pair (.leaf 4) (.pair (.leaf 4) (.leaf 4))))))]⟩)]⟩ .no) .no)) .no) .no)) .no)) .no)) .no))) [.int .i64,.int .i64] 31 53 (.pair (.pair (.leaf 4) (.pair (.leaf 4) (.pair (.leaf 4) (.leaf 4)))) (.pair (.leaf 4) (.pair (.leaf 4) (.pair (.leaf 4) (.leaf 4))))) (rows,columns)=Zmi rows columns:=by kernel_rfl
theorem Zdr:ZEh Tryz.prog Zni.1 Zni.2:=ZQr (C:=⟨Tryz.prog,[(38,0),(40,2),(42,3),(47,1),(49,4)],[ZBf],[9],[],[],[],[]⟩) ⟨ZVn,trivial⟩ trivial trivial trivial (inl:=[]) trivial (ann:=(.two .no (.two .no (.two (.two .no (.two (.cut ⟨⟨[0,1,5],[],[.s 6 (.dat (.int .i64)),.l (.sl 5) (.mat 31 53 (.pair (.pair (.leaf 4) (.pair (.leaf 4) (.pair (.leaf 4) (.leaf 4)))) (.pair (.leaf 4) (.pair (.leaf 4) (.pair (.leaf 4) (.leaf 4))))))]⟩,[(.exit 0,⟨[5],[],[.l (.sl 5) (.mat 31 53 (.pair (.pair (.leaf 4) (.pair (.leaf 4) (.pair (.leaf 4) (.leaf 4)))) (.pair (.leaf 4) (.pair (.leaf 4) (.pair (.leaf 4) (.leaf 4))))))]⟩)]⟩ (.two (.two .no (.two (.two (.two .no (.two (.cut ⟨⟨[0,1,5,6],[],[.s 7 (.dat (.int .i64)),.l (.sl 5) (.mat 31 53 (.pair (.pair (.leaf 4) (.pair (.leaf 4) (.pair (.leaf 4) (.leaf 4)))) (.pair (.leaf 4) (.pair (.leaf 4) (.pair (.leaf 4) (.leaf 4))))))]⟩,[(.exit 2,⟨[0,1,5,6],[],[.l (.sl 5) (.mat 31 53 (.pair (.pair (.leaf 4) (.pair (.leaf 4) (.pair (.leaf 4) (.leaf 4)))) (.pair (.leaf 4) (.pair (.leaf 4) (.pair (.leaf 4) (.leaf 4))))))]⟩)]⟩ .no) .no)) .no) .no)) .no)) .no)) .no)))) Tryz.func69 (fun _ _=>by kernel_rfl) rfl (fun x z hz=>(ZHy x.1 x.2).trans hz)
end Go.Eng
set_option maxRecDepth 100000
set_option maxHeartbeats 4000000
namespace Go.Eng
open Go.Proofs Go.RowKit
def Zgm:FuncId×Con:=(27,⟨[.int .i64],[.slice (.slice (.pair (.pair (.leaf 4) (.pair (.leaf 4) (.pair (.leaf 4) (.leaf 4)))) (.pair (.leaf 4) (.pair (.leaf 4) (.pair (.leaf 4) (.leaf 4))))))],fun p=>ZMj p⟩)
theorem Zwy (n:Int):Zk ⟨Tryz.prog,[(38,0),(40,2),(42,3),(47,1),(49,4)],[Zoi],[],[],[],[],[Zni]⟩ [] Tryz.f27 (.two .no (.two (.two .no (.cut ⟨⟨[],[],[]⟩,[(.norm,⟨[],[],[.s 0 (.dat (.int .i64))]⟩)]⟩ .no)) (.two (.two .no (.cut ⟨⟨[],[],[]⟩,[(.norm,⟨[],[],[.s 0 (.dat (.int .i64))]⟩)]⟩ .no)) (.two .no (.two (.two .no (.two (.cut ⟨⟨[0,3],[],[.s 4 (.dat (.int .i64)),.l (.sl 3) (.mat 31 53 (.pair (.pair (.leaf 4) (.pair (.leaf 4) (.pair (.leaf 4) (.leaf 4)))) (.pair (.leaf 4) (.pair (.leaf 4) (.pair (.leaf 4) (.leaf 4))))))]⟩,[(.exit 0,⟨[3],[],[.l (.sl 3) (.mat 31 53 (.pair (.pair (.leaf 4) (.pair (.leaf 4) (.pair (.leaf 4) (.leaf 4)))) (.pair (.leaf 4) (.pair (.leaf 4) (.pair (.leaf 4) (.leaf 4))))))]⟩)]⟩ .no) .no)) .no))))) [.int .i64] [.slice (.slice (.pair (.pair (.leaf 4) (.pair (.leaf 4) (.pair (.leaf 4) (.leaf 4)))) (.pair (.leaf 4) (.pair (.leaf 4) (.pair (.leaf 4) (.leaf 4))))))] (n)=ZMj n:=by kernel_rfl
theorem ZoA:Zj Tryz.prog Zgm.1 Zgm.2:=Zm (C:=⟨Tryz.prog,[(38,0),(40,2),(42,3),(47,1),(49,4)],[Zoi],[],[],[],[],[Zni]⟩) ⟨Zps,trivial⟩ trivial trivial trivial (inl:=[]) trivial (ann:=(.two .no (.two (.two .no (.cut ⟨⟨[],[],[]⟩,[(.norm,⟨[],[],[.s 0 (.dat (.int .i64))]⟩)]⟩ .no)) (.two (.two .no (.cut ⟨⟨[],[],[]⟩,[(.norm,⟨[],[],[.s 0 (.dat (.int .i64))]⟩)]⟩ .no)) (.two .no (.two (.two .no (.two (.cut ⟨⟨[0,3],[],[.s 4 (.dat (.int .i64)),.l (.sl 3) (.mat 31 53 (.pair (.pair (.leaf 4) (.pair (.leaf 4) (.pair (.leaf 4) (.leaf 4)))) (.pair (.leaf 4) (.pair (.leaf 4) (.pair (.leaf 4) (.leaf 4))))))]⟩,[(.exit 0,⟨[3],[],[.l (.sl 3) (.mat 31 53 (.pair (.pair (.leaf 4) (.pair (.leaf 4) (.pair (.leaf 4) (.leaf 4)))) (.pair (.leaf 4) (.pair (.leaf 4) (.pair (.leaf 4) (.leaf 4))))))]⟩)]⟩ .no) .no)) .no)))))) Tryz.func27 (fun _ _=>by kernel_rfl) rfl (fun v vals x z ha hz=>(Zwy x).trans hz) (hq:=⟨Zdr,trivial⟩)
end Go.Eng
set_option maxRecDepth 100000
set_option maxHeartbeats 4000000
namespace Go.Eng
open Go.Proofs Go.RowKit
def Zkl:FuncId×Con:=(20,⟨[.slice (.slice (.pair (.pair (.leaf 4) (.pair (.leaf 4) (.pair (.leaf 4) (.leaf 4)))) (.pair (.leaf 4) (.pair (.leaf 4) (.pair (.leaf 4) (.leaf 4))))))],[.slice (.slice (.pair (.pair (.leaf 4) (.pair (.leaf 4) (.pair (.leaf 4) (.leaf 4)))) (.pair (.leaf 4) (.pair (.leaf 4) (.pair (.leaf 4) (.leaf 4)))))),.int .i64],fun p=>Zbd p⟩)
theorem Z3y (m:List (List ((Rat×Rat×Rat×Rat)×Rat×Rat×Rat×Rat))):Zk ⟨Tryz.prog,[(38,0),(40,2),(42,3),(47,1),(49,4)],[ZCi,Zgm,Zsf],[],[],[],[],[Zni]⟩ [] Tryz.f20 (.two .no (.two .no (.two .no (.two .no (.two (.two .no (.two (.cut ⟨⟨[0,4,5],[],[.s 6 (.dat (.int .i64)),.l (.sl 4) (.mat 31 53 (.pair (.pair (.leaf 4) (.pair (.leaf 4) (.pair (.leaf 4) (.leaf 4)))) (.pair (.leaf 4) (.pair (.leaf 4) (.pair (.leaf 4) (.leaf 4))))))]⟩,[(.exit 0,⟨[4],[],[.l (.sl 4) (.mat 31 53 (.pair (.pair (.leaf 4) (.pair (.leaf 4) (.pair (.leaf 4) (.leaf 4)))) (.pair (.leaf 4) (.pair (.leaf 4) (.pair (.leaf 4) (.leaf 4))))))]⟩),(.ret,⟨[],[],[.s 1000 (.dat (.slice (.slice (.pair (.pair (.leaf 4) (.pair (.leaf 4) (.pair (.leaf 4) (.leaf 4)))) (.pair (.leaf 4) (.pair (.leaf 4) (.pair (.leaf 4) (.leaf 4)))))))),.s 1001 (.dat (.int .i64))]⟩)]⟩ (.two (.two .no (.two (.two (.two .no (.two .no (.two .no (.two (.cut ⟨⟨[0,4,5,6,7],[],[.s 9 (.dat (.int .i64)),.l (.sl 4) (.mat 31 53 (.pair (.pair (.leaf 4) (.pair (.leaf 4) (.pair (.leaf 4) (.leaf 4)))) (.pair (.leaf 4) (.pair (.leaf 4) (.pair (.leaf 4) (.leaf 4))))))]⟩,[(.exit 2,⟨[0,4,5,6],[],[.l (.sl 4) (.mat 31 53 (.pair (.pair (.leaf 4) (.pair (.leaf 4) (.pair (.leaf 4) (.leaf 4)))) (.pair (.leaf 4) (.pair (.leaf 4) (.pair (.leaf 4) (.leaf 4))))))]⟩)]⟩ .no) .no)))) .no) .no)) .no)) .no)) .no))))) [.slice (.slice (.pair (.pair (.leaf 4) (.pair (.leaf 4) (.pair (.leaf 4) (.leaf 4)))) (.pair (.leaf 4) (.pair (.leaf 4) (.pair (.leaf 4) (.leaf 4))))))] [.slice (.slice (.pair (.pair (.leaf 4) (.pair (.leaf 4) (.pair (.leaf 4) (.leaf 4)))) (.pair (.leaf 4) (.pair (.leaf 4) (.pair (.leaf 4) (.leaf 4)))))),.int .i64] (m)=Zbd m:=by kernel_rfl
theorem Z2z:Zj Tryz.prog Zkl.1 Zkl.2:=Zm (C:=⟨Tryz.prog,[(38,0),(40,2),(42,3),(47,1),(49,4)],[ZCi,Zgm,Zsf],[],[],[],[],[Zni]⟩) ⟨ZIq,ZoA,ZBo,trivial⟩ trivial trivial trivial (inl:=[]) trivial (ann:=(.two .no (.two .no (.two .no (.two .no (.two (.two .no (.two (.cut ⟨⟨[0,4,5],[],[.s 6 (.dat (.int .i64)),.l (.sl 4) (.mat 31 53 (.pair (.pair (.leaf 4) (.pair (.leaf 4) (.pair (.leaf 4) (.leaf 4)))) (.pair (.leaf 4) (.pair (.leaf 4) (.pair (.leaf 4) (.leaf 4))))))]⟩,[(.exit 0,⟨[4],[],[.l (.sl 4) (.mat 31 53 (.pair (.pair (.leaf 4) (.pair (.leaf 4) (.pair (.leaf 4) (.leaf 4)))) (.pair (.leaf 4) (.pair (.leaf 4) (.pair (.leaf 4) (.leaf 4))))))]⟩),(.ret,⟨[],[],[.s 1000 (.dat (.slice (.slice (.pair (.pair (.leaf 4) (.pair (.leaf 4) (.pair (.leaf 4) (.leaf 4)))) (.pair (.leaf 4) (.pair (.leaf 4) (.pair (.leaf 4) (.leaf 4)))))))),.s 1001 (.dat (.int .i64))]⟩)]⟩ (.two (.two .no (.two (.two (.two .no (.two .no (.two .no (.two (.cut ⟨⟨[0,4,5,6,7],[],[.s 9 (.dat (.int .i64)),.l (.sl 4) (.mat 31 53 (.pair (.pair (.leaf 4) (.pair (.leaf 4) (.pair (.leaf 4) (.leaf 4)))) (.pair (.leaf 4) (.pair (.leaf 4) (.pair (.leaf 4) (.leaf 4))))))]⟩,[(.exit 2,⟨[0,4,5,6],[],[.l (.sl 4) (.mat 31 53 (.pair (.pair (.leaf 4) (.pair (.leaf 4) (.pair (.leaf 4) (.leaf 4)))) (.pair (.leaf 4) (.pair (.leaf 4) (.pair (.leaf 4) (.leaf 4))))))]⟩)]⟩ .no) .no)))) .no) .no)) .no)) .no)) .no)))))) Tryz.func20 (fun _ _=>by kernel_rfl) rfl (fun v vals x z ha hz=>(Z3y x).trans hz) (hq:=⟨Zdr,trivial⟩)
end Go.Eng
set_option maxRecDepth 100000
set_option maxHeartbeats 4000000
namespace Go.Eng
open Go.Proofs Go.RowKit
theorem Zpx (m:List (List (Int×Int))) (b:List (Int×Int)):Zk ⟨Tryz.prog,[(38,0),(40,2),(42,3),(47,1),(49,4)],[Zym,Znn,ZYf,ZLf,Zgh,Z0k,Zdl,Znl,ZCi,Zrk,Zkl,ZHh],[],[],[],[],[]⟩ [] Tryz.f4 (.two .no (.two (.two (.cut ⟨⟨[],[],[]⟩,[(.norm,⟨[0,1],[],[.s 26 (.dat .bool)]⟩)]⟩ .no) .no) (.two .no (.two .no (.two .no (.two .no (.two (.two (.cut ⟨⟨[],[],[]⟩,[(.norm,⟨[5,6,7,8],[],[.s 58 (.dat .bool)]⟩)]⟩ .no) .no) (.two .no (.two .no (.two .no (.two .no (.two (.cut ⟨⟨[],[],[]⟩,[(.norm,⟨[],[],[.s 4 (.dat .bool)]⟩)]⟩ .no) .no)))))))))))) [.slice (.slice (.pair (.int .i64) (.int .i64))),.slice (.pair (.int .i64) (.int .i64))] [.bool] (m,b)=Zsl m b:=by kernel_rfl
theorem Z4z {w0:World} {v0:Zb} (hv:VIn v0 w0) {c0:List Value} {m:(List (List (Int×Int)))} (p0:Rep.rel (Zw (Zw (Zpb (Zd .i64) (Zd .i64)))) v0 c0 m) {c1:List Value} {b:(List (Int×Int))} (p1:Rep.rel (Zw (Zpb (Zd .i64) (Zd .i64))) v0 c1 b) {z:Bool} (hm:Zsl m b=some z):Ret Tryz.prog 4 #[(Zw (Zw (Zpb (Zd .i64) (Zd .i64)))).val c0,(Zw (Zpb (Zd .i64) (Zd .i64))).val c1] w0 v0 (fun y v'=>∃ r0,y=Zrd.val r0∧Zrd.rel v' r0 z):=(Z3n (C:=⟨Tryz.prog,[(38,0),(40,2),(42,3),(47,1),(49,4)],[Zym,Znn,ZYf,ZLf,Zgh,Z0k,Zdl,Znl,ZCi,Zrk,Zkl,ZHh],[],[],[],[],[]⟩) (CfOK.of ⟨few2_k,ZEx,Zco,Zdq,is2_k,Det_k,rDet_k,Solve_k,ZIq,Zgw,Z2z,ZFr,trivial⟩ trivial trivial trivial) (inl:=[]) (Z0c.of trivial) (ann:=(.two .no (.two (.two (.cut ⟨⟨[],[],[]⟩,[(.norm,⟨[0,1],[],[.s 26 (.dat .bool)]⟩)]⟩ .no) .no) (.two .no (.two .no (.two .no (.two .no (.two (.two (.cut ⟨⟨[],[],[]⟩,[(.norm,⟨[5,6,7,8],[],[.s 58 (.dat .bool)]⟩)]⟩ .no) .no) (.two .no (.two .no (.two .no (.two .no (.two (.cut ⟨⟨[],[],[]⟩,[(.norm,⟨[],[],[.s 4 (.dat .bool)]⟩)]⟩ .no) .no))))))))))))) (ats:=[.slice (.slice (.pair (.int .i64) (.int .i64))),.slice (.pair (.int .i64) (.int .i64))]) (rts:=[.bool]) (x:=(m,b)) (vals:=[(Zw (Zw (Zpb (Zd .i64) (Zd .i64)))).val c0,(Zw (Zpb (Zd .i64) (Zd .i64))).val c1]) Tryz.func4 rfl ((Zpx m b).trans hm) hv ⟨c0,_,rfl,p0,c1,rfl,p1⟩).mono fun y v' _ h=>h
end Go.Eng
