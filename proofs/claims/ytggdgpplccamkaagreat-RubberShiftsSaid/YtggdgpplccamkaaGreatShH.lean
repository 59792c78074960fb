/- Lemmas towards the statement: the engine of the walks, the functions' models, laws and walks, part 8. Conditions: as each states. -/
import Derived.Test.YtggdgpplccamkaaGreatProg
import Derived.Test.YtggdgpplccamkaaGreatShG
set_option linter.all false
set_option maxRecDepth 100000
set_option maxHeartbeats 4000000
namespace Go.Eng
open Go.Proofs Go.RowKit
noncomputable def ZPt:FuncId×Con:=(34,⟨[.leaf 3],[.leaf 4],λp=>ZYc p⟩)
theorem ZRx:KQ ZPt:=Zl (ZO (C:=cf0 [Z6k,ZOe,ZIt,ZPf,Zri] [] [] []) (.n (.n (.two (.j [2,3] [] [.s 4 (.dat .bool)] .no) (.two (.n (.j [2,4] [] [.s 3 (.dat .str)] .no)) (.f (.n (.f (.cut ⟨⟨[2,3,4],[],[.s 5 (.dat (.int .i64))]⟩,[(.exit 0,⟨[2,3,4],[],[]⟩),(.ret,⟨[],[],[.s 1000 (.dat (.leaf 4))]⟩)]⟩ (.f (.n (.f (.f (.two (.f (.j [2,3,4,5] [] [.s 42 (.dat .bool)] .no)) (.n (.f (.f (.n (.f (.cut ⟨⟨[2,3,4,5],[],[.s 6 (.dat (.int .i64))]⟩,[(.exit 2,⟨[2,3,4,5],[],[]⟩),(.ret,⟨[],[],[.s 1000 (.dat (.leaf 4))]⟩)]⟩ (.f (.n (.f (.f (.f (.j [2,3,4,5,6] [] [.s 65 (.dat .bool)] .no))))))))))))))))))))))))) Tryz.func34 [] (λ_=>by kernel_rfl) ⟨Zkn,Zwf,rRead_k,ZWg,ZJk,tr⟩)
noncomputable def Zal:FuncId×Con:=(66,⟨[.leaf 4],[.bool],λp=>Zfe p⟩)
theorem ZEm:KQ Zal:=Zl (ZE (C:=cf2 [(62,1),(64,4)] []) .no Tryz.func66 [] (λv vals x z ha hz=>.trans (by kernel_rfl) (Zkw hz)))
theorem Zhz {x:Rat} {z:Int} (h:ZHb x=some z):Z9p x=some z:=by
 unfold ZHb at h
 cases h
 unfold Z9p Zfe;rw[Za];by_cases h0:x=0
 ·subst h0;rfl
 ·have:=ZOk h0;rw[dFq h0,Ze];by_cases h1:x.num<0
  ·rw[dTq h1,Zf,Int.sign_eq_neg_one_of_neg h1]
  ·rw[dFq h1,Ze,Int.sign_eq_one_of_pos (by omega)]
noncomputable def ZCf:FuncId×Con:=(32,⟨[.leaf 4],[.int .i64],λp=>ZHb p⟩)
theorem Zzg:KQ ZCf:=Zl (ZE (C:=cf2 [(62,1),(64,4)] [Zal]) .no Tryz.func32 [] (λv vals x z ha hz=>.trans (by kernel_rfl) (Zhz hz)) ⟨ZEm,tr⟩)
noncomputable def ZUh:FuncId×Con:=(93,⟨[.leaf 4],[.leaf 1],λp=>Zfc p⟩)
theorem Z5i:KQ ZUh:=Zl (ZE (C:=cf2 [(62,1),(64,4)] []) .no Tryz.func93 [] (λv vals x z ha hz=>.trans (by kernel_rfl) (Zyw hz)))
theorem radd_eq {x y:Rat} (h:smQ x) (h':smQ y):Zoo x y=some (x+y):=by
 obtain⟨a1,a2⟩:=h;obtain⟨b1,b2⟩:=h';unfold Zoo Zfc;have p1:=Z9a x.num.natAbs y.den;have p2:=Z9a y.num.natAbs x.den;have p3:=Z9a x.den y.den;have p4:=Zlp (x.num.natAbs*y.den) (y.num.natAbs*x.den);have hd:x.den*y.den≠0:=Nat.mul_ne_zero x.den_nz y.den_nz;have e1:Zqa x.num.natAbs y.den=some (x.num.natAbs*y.den):=by unfold Zqa;rw[iP ⟨ZEb (by omega),ZEb (by omega)⟩]
 have e2:Zqa y.num.natAbs x.den=some (y.num.natAbs*x.den):=by unfold Zqa;rw[iP ⟨ZEb (by omega),ZEb (by omega)⟩]
 have e3:Zqa x.den y.den=some (x.den*y.den):=by unfold Zqa;rw[iP ⟨ZEb (by omega),ZEb (by omega)⟩]
 have eN:((x.num.natAbs*y.den:Nat):Int)=(x.num.natAbs:Int)*y.den:=by simp
 have eM:((y.num.natAbs*x.den:Nat):Int)=(y.num.natAbs:Int)*x.den:=by simp
 have key:∀ (s:Bool) (n:Nat),bl n≤1099511627776→sgn s n=x.num*y.den+y.num*x.den→Z1a s n (x.den*y.den)=some (x+y):=by
  intro s n hn he;unfold Z1a;rw[iP ⟨ZBd hn,ZBd (by omega),hd⟩,he,← Rat.add_def']
 rw[Za,Za,e1,Za,e2,Za,e3];obtain⟨N,hN⟩:∃ N,N=x.num.natAbs*y.den:=⟨_,rfl⟩;obtain⟨M,hM⟩:∃ M,M=y.num.natAbs*x.den:=⟨_,rfl⟩;rw[← hN]at p1 p4 eN ⊢;rw[← hM]at p2 p4 eM ⊢;have sx:x.num*(y.den:Int)=if x.num<0 then -(N:Int) else N:=by
  split
  ·rw[eN,← Int.neg_mul];congr 1;omega
  ·rw[eN];congr 1;omega
 have sy:y.num*(x.den:Int)=if y.num<0 then -(M:Int) else M:=by
  split
  ·rw[eM,← Int.neg_mul];congr 1;omega
  ·rw[eM];congr 1;omega
 by_cases hs:(x.num<0)↔(y.num<0)
 ·have e4:Zkf N M=some (N+M):=by unfold Zkf;rw[iP ⟨ZEb (by omega),ZEb (by omega)⟩]
  have e5:((decide (x.num<0))==(decide (y.num<0)))=true:=by
   by_cases h:x.num<0
   ·simp[h,hs.1 h]
   ·have h2:¬ y.num<0:=λk=>h (hs.2 k);simp[h,h2]
  rw[e5,Zf,e4,Za,Za,key _ _ (by omega) ?_,Za];rw[sx,sy];unfold sgn;by_cases h:x.num<0
  ·have h2:=hs.1 h;simp[h,h2];omega
  ·have h2:¬ y.num<0:=λk=>h (hs.2 k);simp[h,h2]
 ·have e5:((decide (x.num<0))==(decide (y.num<0)))=false:=by
   apply beq_false_of_ne;intro h;exact hs (by by_cases k:x.num<0 <;> by_cases k2:y.num<0 <;> simp_all)
  rw[e5,Ze];unfold ZTd;rw[Za];by_cases hle:M≤N
  ·have e6:decide ((0:Int)≤Zwa N M)=true:=by
    unfold Zwa;rw[iN (by omega)];split <;> rfl
   have e4:Zuc N M=some (N-M):=by unfold Zuc;rw[iP ⟨ZEb (by omega),hle⟩]
   have hb:bl (N-M)≤bl N:=Z6e (by omega);rw[e6,Zf,e4,Za,Za,key _ _ (by omega) ?_,Za];rw[sx,sy];unfold sgn;by_cases h:x.num<0
   ·have h2:¬ y.num<0:=λk=>hs ⟨λ_=>k,λ_=>h⟩;simp[h,h2];omega
   ·have h2:y.num<0:=by
     rcases Int.lt_or_le y.num 0 with k | k
     ·exact k
     ·exact absurd ⟨λq=>absurd q h,λq=>absurd q (by omega)⟩ hs
    simp[h,h2];omega
  ·have e6:decide ((0:Int)≤Zwa N M)=false:=by
    unfold Zwa;rw[iP (by omega)];rfl
   have e4:Zuc M N=some (M-N):=by unfold Zuc;rw[iP ⟨ZEb (by omega),by omega⟩]
   have hb:bl (M-N)≤bl M:=Z6e (by omega);rw[e6,Ze,e4,Za,Za,key _ _ (by omega) ?_,Za];rw[sx,sy];unfold sgn;by_cases h:x.num<0
   ·have h2:¬ y.num<0:=λk=>hs ⟨λ_=>k,λ_=>h⟩;simp[h,h2];omega
   ·have h2:y.num<0:=by
     rcases Int.lt_or_le y.num 0 with k | k
     ·exact k
     ·exact absurd ⟨λq=>absurd q h,λq=>absurd q (by omega)⟩ hs
    simp[h,h2];omega
theorem Zpw {x y z:Rat} (h:ZTb x y=some z):Zoo x y=some z:=by
 unfold ZTb at h;split at h
 ·rename_i hh;rw[radd_eq hh.1 hh.2,h]
 ·cases h
noncomputable def Zqj:FuncId×Con:=(76,⟨[.leaf 4,.leaf 4],[.leaf 4],λp=>ZTb p.1 p.2⟩)
theorem Zqm:KQ Zqj:=Zl (ZE (C:=cf2 [(62,1),(64,4)] [ZPf,Zci,ZUh,ZGp,Zgk,Zkp]) .no Tryz.func76 [] (λv vals x z ha hz=>.trans (by kernel_rfl) (Zpw hz)) ⟨ZWg,ZCj,Z5i,ZNv,Zon,ZOt,tr⟩)
theorem rneg_eq {x:Rat} (h:okQ x):Zgn x=some (-x):=by
 obtain⟨h1,h2⟩:=h;unfold Zgn Zfc Z1a;rw[Za,iP ⟨ZBd h1,ZBd h2,x.den_nz⟩,Za];congr 1;have e:sgn (!(decide (x.num<0))) x.num.natAbs = -x.num:=by
  unfold sgn;by_cases h:x.num<0
  ·simp[h];omega
  ·simp[h];omega
 rw[e];exact Rat.mkRat_self (-x)
theorem ZgB {x z:Rat} (h:ZOg x=some z):Zgn x=some z:=by
 unfold ZOg at h;split at h
 ·rename_i hh;rw[rneg_eq hh,h]
 ·cases h
noncomputable def Z6m:FuncId×Con:=(111,⟨[.leaf 4],[.leaf 4],λp=>ZOg p⟩)
theorem Zes:KQ Z6m:=Zl (ZE (C:=cf2 [(62,1),(64,4)] [ZPf,ZUh]) .no Tryz.func111 [] (λv vals x z ha hz=>.trans (by kernel_rfl) (ZgB hz)) ⟨ZWg,Z5i,tr⟩)
theorem ZHA {x y z:Rat} (h:Z8e x y=some z):ZUq x y=some z:=by
 unfold Z8e at h;split at h
 ·rename_i hh;unfold ZUq ZOg ZTb;rw[iP (smQ_ok hh.2),Za,iP ⟨hh.1,smQ_neg hh.2⟩,Za,← Rat.sub_eq_add_neg];exact h
 ·cases h
noncomputable def Zcp:FuncId×Con:=(67,⟨[.leaf 4,.leaf 4],[.leaf 4],λp=>Z8e p.1 p.2⟩)
theorem Zot:KQ Zcp:=Zl (ZE (C:=cf2 [(62,1),(64,4)] [Zqj,Z6m]) .no Tryz.func67 [] (λv vals x z ha hz=>.trans (by kernel_rfl) (ZHA hz)) ⟨Zqm,Zes,tr⟩)
theorem ZPx {x y:Rat} {z:Int} (h:ZFc x y=some z):Z9q x y=some z:=by
 unfold ZFc at h;split at h
 ·rename_i hh
  cases h
  unfold Z9q Z8e ZHb;rw[iP hh,Za,Za]
 ·cases h
noncomputable def Z6h:FuncId×Con:=(33,⟨[.leaf 4,.leaf 4],[.int .i64],λp=>ZFc p.1 p.2⟩)
theorem ZFi:KQ Z6h:=Zl (ZE (C:=cf2 [(62,1),(64,4)] [ZCf,Zcp]) .no Tryz.func33 [] (λv vals x z ha hz=>.trans (by kernel_rfl) (ZPx hz)) ⟨Zzg,Zot,tr⟩)
noncomputable def ZZv:FuncId×Con:=(35,⟨[.pair (.leaf 4) (.slice (.pair (.leaf 4) (.leaf 4)))],[.int .i64],λp=>ZMk p⟩)
theorem ZQz:KQ ZZv:=Zl (ZO (C:=cf0 [ZCf,Z6h] [] [] []) (.n (.n (.n (.f (.n (.f (.cut ⟨⟨[1],[],[.s 3 (.dat (.int .i64))]⟩,[(.exit 0,⟨[],[],[]⟩),(.ret,⟨[],[],[.s 1000 (.dat (.int .i64))]⟩)]⟩ (.f (.n (.f (.f (.two (.f (.j [1,3] [] [.s 36 (.dat .bool)] .no)) (.f (.j [1,3] [] [.s 55 (.dat .bool)] .no)))))))))))))) Tryz.func35 [] (λ_=>by kernel_rfl) ⟨Zzg,ZFi,tr⟩)
theorem Zqx {x y:Rat} {z:Bool} (h:Zig x y=some z):Z2r x y=some z:=by
 unfold Zig at h;split at h
 ·rename_i hh
  cases h
  unfold Z2r ZFc;rw[iP hh,Za];congr 1;rw[Bool.eq_iff_iff];simp only[beq_iff_eq,decide_eq_true_iff,Int.sign_eq_zero_iff_zero,Rat.num_eq_zero];constructor
  ·intro h;grind
  ·intro h;grind
 ·cases h
noncomputable def ZEn:FuncId×Con:=(71,⟨[.leaf 4,.leaf 4],[.bool],λp=>Zig p.1 p.2⟩)
theorem Zys:KQ ZEn:=Zl (ZE (C:=cf2 [(62,1),(64,4)] [Z6h]) .no Tryz.func71 [] (λv vals x z ha hz=>.trans (by kernel_rfl) (Zqx hz)) ⟨ZFi,tr⟩)
noncomputable def ZXr:FuncId×Con:=(36,⟨[.pair (.leaf 4) (.slice (.pair (.leaf 4) (.leaf 4))),.slice (.leaf 4)],[.bool],λp=>Zlk p.1 p.2⟩)
theorem Z0B:KQ ZXr:=Zl (ZO (C:=cf0 [ZEn] [] [] []) (.n (.n (.f (.n (.f (.cut ⟨⟨[1,2],[],[.s 5 (.dat (.int .i64))]⟩,[(.exit 0,⟨[],[],[]⟩),(.ret,⟨[],[],[.s 1000 (.dat .bool)]⟩)]⟩ .no)))))) Tryz.func36 [] (λ_=>by kernel_rfl) ⟨Zys,tr⟩)
noncomputable def ZSu (x:Rat):Option ((List UInt8)) :=
 bnd (Zgi x.num.natAbs) λb =>
 bnd (ifb (decide (x.num<0))
 (bnd (Zfe x) λd =>
 some (!(d)))
 (some false))
 (λ(e:Bool) =>
 (bnd (ifb (e)
 (bnd (ZKb ((([45]:List UInt8))++b)) λj =>
 some (((([45]:List UInt8))++b)))
 (some b))
 (λ(a:(List UInt8)) =>
 (bnd (Zfc x) λf =>
 bnd (ZOb ([(1:Int)])) λg =>
 bnd (ZTd f g) λh =>
 bnd (ifb (decide ((0:Int)<h))
 (bnd (ZKb (a++(([47]:List UInt8)))) λk =>
 bnd (Zgi x.den) λc =>
 bnd (ZKb (((a++(([47]:List UInt8))))++c)) λl =>
 some ((((a++(([47]:List UInt8))))++c)))
 (some a))
 (λ(i:(List UInt8)) =>
 (some i))))))
noncomputable def Zyt:FuncId×Con:=(116,⟨[.leaf 1],[.str],λp=>Zgi p⟩)
theorem Zcy:KQ Zyt:=Zl (ZE (C:=cf2 [(62,1),(64,4)] [Z7m]) (.n (.n (.f (.j [] [] [.s 3 (.dat .str)] (.f (.l [] [] [.s 0 (.dat (.leaf 1)),.s 3 (.dat .str)] 0 [] [] [.s 3 (.dat .str)] (.f (.n (.f (.n (.f (.n (.j [4] [] [.s 3 (.dat .str)] (.f (.l [4] [] [.s 3 (.dat .str),.s 5 (.dat (.int .u32)),.s 6 (.dat (.int .i64))] 2 [4] [] [.s 3 (.dat .str)] (.f (.f (.f (.j [3,4,5,6] [] [.s 25 (.dat .bool)] .no))))))))))))))))))) Tryz.func116 [] (λv vals x z ha hz=>.trans (by kernel_rfl) (ZOw hz)) ⟨Zft,tr⟩)
theorem ZOA {x:Rat} {z:List UInt8} (h:ZQj x=some z):ZSu x=some z:=by
 unfold ZQj at h;split at h
 ·rename_i hh;obtain⟨h1,h2⟩:=hh
  cases h
  unfold ZSu Zgi;have l1:=Ztl (n:=x.num.natAbs) (by omega);have l2:=Ztl (n:=x.den) (by omega);rw[iP (ZBd h1),Za];have e0:ifb (decide (x.num<0)) (bnd (Zfe x) λy136=>some (!(y136))) (some false)=some (decide (x.num<0)):=by
   unfold Zfe;by_cases h:x.num<0
   ·have:x≠0:=λe=>by subst e;simp at h
    rw[dTq h,Zf,Za,dFq this];rfl
   ·rw[dFq h,Ze]
  rw[e0,Za];have e1:ifb (decide (x.num<0)) (bnd (ZKb ([45]++Z9 x.num.natAbs)) λy80=>some (([45]:List UInt8)++Z9 x.num.natAbs)) (some (Z9 x.num.natAbs))=some ((if x.num<0 then [45] else [])++Z9 x.num.natAbs):=by
   by_cases h:x.num<0
   ·rw[dTq h,Zf,Z1e (by simp;omega),Za,iP h]
   ·rw[dFq h,Ze,iN h];rfl
  rw[e1,Za];unfold txtQ Zfc ZTd;have l3:((if x.num<0 then [45] else [])++Z9 x.num.natAbs:List UInt8).length≤4398046511105:=by
   rw[lA];split <;> simp <;> omega
  generalize ((if x.num<0 then [45] else [])++Z9 x.num.natAbs:List UInt8)=s at *;rw[Za,ZRm,Za,Za,ZXq];by_cases hd:x.den=1
  ·rw[hd];simp[ifb,bnd]
  ·have:=x.den_nz;rw[dTq (by omega),Zf,Z1e (by simp;omega),Za,iP (ZBd h2),Za,Z1e (by simp;omega),Za,Za,iN hd];simp
 ·cases h
noncomputable def Ziq:FuncId×Con:=(72,⟨[.leaf 4],[.str],λp=>ZQj p⟩)
theorem rtext_k:KQ Ziq:=Zl (ZE (C:=cf2 [(62,1),(64,4)] [Zal,ZUh,Zyt,Zgk]) (.n (.n (.two (.two (.j [1,3] [] [.s 13 (.dat .bool)] .no) (.j [1] [] [.s 3 (.dat .str)] .no)) (.f (.n (.j [] [] [.s 3 (.dat .str)] .no)))))) Tryz.func72 [] (λv vals x z ha hz=>.trans (by kernel_rfl) (ZOA hz)) ⟨ZEm,Z5i,Zcy,Zon,tr⟩)
noncomputable def is1_q:FuncId×Con:=(37,⟨[.leaf 3,.leaf 4],[.bool],λp=>Zjm p.1 p.2⟩)
theorem is1_k:KQ is1_q:=Zl (ZO (C:=cf0 [Z6k,Ziq] [] [] []) .no Tryz.func37 [] (λ_=>by kernel_rfl) ⟨Zkn,rtext_k,tr⟩)
theorem ZJA {x y z:Rat} (h:Z8b x y=some z):Zfs x y=some z:=by
 unfold Z8b at h;split at h
 ·rename_i hh;obtain⟨⟨a1,a2⟩,b1,b2⟩:=hh
  cases h
  unfold Zfs Zfc;have p1:=Z9a x.num.natAbs y.num.natAbs;have p3:=Z9a x.den y.den;have e1:Zqa x.num.natAbs y.num.natAbs=some (x.num.natAbs*y.num.natAbs):=by unfold Zqa;rw[iP ⟨ZEb (by omega),ZEb (by omega)⟩]
  have e3:Zqa x.den y.den=some (x.den*y.den):=by unfold Zqa;rw[iP ⟨ZEb (by omega),ZEb (by omega)⟩]
  rw[e1,Za,Za,Za,e3,Za];unfold Z1a;rw[iP ⟨ZBd (by omega),ZBd (by omega),Nat.mul_ne_zero x.den_nz y.den_nz⟩,Za];have e:sgn ((decide (x.num<0)) != (decide (y.num<0))) (x.num.natAbs*y.num.natAbs)=x.num*y.num:=by
   have eN:((x.num.natAbs*y.num.natAbs:Nat):Int)=(x.num.natAbs:Int)*y.num.natAbs:=by simp
   unfold sgn;rw[eN];by_cases h:x.num<0
   ·have hx:(x.num.natAbs:Int) = -x.num:=by omega
    by_cases h2:y.num<0
    ·have hy:(y.num.natAbs:Int) = -y.num:=by omega
     simp[h,h2,hx,hy,Int.neg_mul,Int.mul_neg]
    ·have hy:(y.num.natAbs:Int)=y.num:=by omega
     simp[h,h2,hx,hy,Int.neg_mul,Int.mul_neg]
   ·have hx:(x.num.natAbs:Int)=x.num:=by omega
    by_cases h2:y.num<0
    ·have hy:(y.num.natAbs:Int) = -y.num:=by omega
     simp[h,h2,hx,hy,Int.neg_mul,Int.mul_neg]
    ·have hy:(y.num.natAbs:Int)=y.num:=by omega
     simp[h,h2,hx,hy,Int.neg_mul,Int.mul_neg]
  rw[e,← Rat.mul_def']
 ·cases h
noncomputable def ZGj:FuncId×Con:=(55,⟨[.leaf 4,.leaf 4],[.leaf 4],λp=>Z8b p.1 p.2⟩)
theorem ZFk:KQ ZGj:=Zl (ZE (C:=cf2 [(62,1),(64,4)] [ZPf,Zci,ZUh]) .no Tryz.func55 [] (λv vals x z ha hz=>.trans (by kernel_rfl) (ZJA hz)) ⟨ZWg,ZCj,Z5i,tr⟩)
noncomputable def ZUt (x:Rat) (y:Rat):Option (Rat×Int) :=
 bnd (Zfe y) λa =>
 ifb (a)
 (bnd (ZGa (0:Int)) λb =>
 some ((b,(3:Int))))
 (bnd (Zfc y) λc =>
 bnd (Zqa x.num.natAbs c) λd =>
 bnd (Zfc x) λe =>
 bnd (Zqa e y.num.natAbs) λf =>
 bnd (Z1a ((decide (x.num<0)) != (decide (y.num<0))) d f) λg =>
 some ((g,(0:Int))))
theorem ZXz {x y:Rat} {z:Rat×Int} (h:ZGi x y=some z):ZUt x y=some z:=by
 unfold ZGi at h;split at h
 ·rename_i hh;obtain⟨⟨a1,a2⟩,b1,b2⟩:=hh
  cases h
  unfold ZUt Zfe;rw[Za];by_cases h0:y=0
  ·subst h0;rfl
  ·rw[dFq h0,Ze,iN h0];unfold Zfc;have hn:=ZOk h0;have p1:=Z9a x.num.natAbs y.den;have p3:=Z9a x.den y.num.natAbs;have e1:Zqa x.num.natAbs y.den=some (x.num.natAbs*y.den):=by unfold Zqa;rw[iP ⟨ZEb (by omega),ZEb (by omega)⟩]
   have e3:Zqa x.den y.num.natAbs=some (x.den*y.num.natAbs):=by unfold Zqa;rw[iP ⟨ZEb (by omega),ZEb (by omega)⟩]
   rw[Za,e1,Za,Za,e3,Za];unfold Z1a;rw[iP ⟨ZBd (by omega),ZBd (by omega),Nat.mul_ne_zero x.den_nz (by omega)⟩,Za];have e:sgn ((decide (x.num<0)) != (decide (y.num<0))) (x.num.natAbs*y.den)=if y.num<0 then -(x.num*(y.den:Int)) else x.num*(y.den:Int):=by
    have eN:((x.num.natAbs*y.den:Nat):Int)=(x.num.natAbs:Int)*y.den:=by simp
    unfold sgn;rw[eN];by_cases h:x.num<0
    ·have hx:(x.num.natAbs:Int) = -x.num:=by omega
     by_cases h2:y.num<0 <;> simp[h,h2,hx,Int.neg_mul]
    ·have hx:(x.num.natAbs:Int)=x.num:=by omega
     by_cases h2:y.num<0 <;> simp[h,h2,hx,Int.neg_mul]
   rw[e,← ZDo h0]
 ·cases h
noncomputable def Zkr:FuncId×Con:=(118,⟨[.leaf 4,.leaf 4],[.leaf 4,.int .i64],λp=>ZGi p.1 p.2⟩)
theorem rdiv_k:KQ Zkr:=Zl (ZE (C:=cf2 [(62,1),(64,4)] [ZOe,Zal,ZPf,Zci,ZUh]) .no Tryz.func118 [] (λv vals x z ha hz=>.trans (by kernel_rfl) (ZXz hz)) ⟨Zwf,ZEm,ZWg,ZCj,Z5i,tr⟩)
theorem rbyF_eq {x y z:Rat} (h:ZQd x y=some z):rby_m x y=some z:=by
 unfold ZQd at h;split at h
 ·rename_i hh
  cases h
  unfold rby_m ZGi;rw[iP hh,Za];split <;> rfl
 ·cases h
noncomputable def rby_q:FuncId×Con:=(74,⟨[.leaf 4,.leaf 4],[.leaf 4],λp=>ZQd p.1 p.2⟩)
theorem rby_k:KQ rby_q:=Zl (ZE (C:=cf2 [(62,1),(64,4)] [Zkr]) .no Tryz.func74 [] (λv vals x z ha hz=>.trans (by kernel_rfl) (rbyF_eq hz)) ⟨rdiv_k,tr⟩)
noncomputable def ZSo:FuncId×Con:=(77,⟨[.leaf 4,.leaf 4],[.leaf 4,.leaf 4],λp=>ZEi p.1 p.2⟩)
theorem ZPv:KQ ZSo:=Zl (ZO (C:=cf0 [ZGj,ZOe,rby_q,Zqj] [] [] []) .no Tryz.func77 [] (λ_=>by kernel_rfl) ⟨ZFk,Zwf,rby_k,Zqm,tr⟩)
noncomputable def ZDt:FuncId×Con:=(73,⟨[.pair (.leaf 4) (.slice (.pair (.leaf 4) (.leaf 4))),.leaf 4],[.leaf 4,.leaf 4],λp=>Zek p.1 p.2⟩)
theorem Z7B:KQ ZDt:=Zl (ZO (C:=cf0 [ZGj,ZOe,Zqj,ZSo] [] [] []) (.n (.n (.f (.n (.f (.l [2,3,4,5,6,7] [] [.s 8 (.dat (.int .i64)),.l (.sl 6) (.box 64 (.dat (.leaf 4))),.l (.sl 7) (.box 64 (.dat (.leaf 4)))] 0 [4,5,6,7] [] [.l (.sl 6) (.box 64 (.dat (.leaf 4))),.l (.sl 7) (.box 64 (.dat (.leaf 4)))] .no)))))) Tryz.func73 [] (λ_=>by kernel_rfl) ⟨ZFk,Zwf,Zqm,ZPv,tr⟩)
noncomputable def Zxp:FuncId×Con:=(75,⟨[.leaf 4],[.leaf 4],λp=>Zbg p⟩)
theorem Zhu:KQ Zxp:=Zl (ZO (C:=cf0 [ZCf,Z6m] [] [] []) .no Tryz.func75 [] (λ_=>by kernel_rfl) ⟨Zzg,Zes,tr⟩)
noncomputable def ZSt:FuncId×Con:=(38,⟨[.pair (.leaf 4) (.slice (.pair (.leaf 4) (.leaf 4))),.slice (.pair (.leaf 4) (.pair (.leaf 4) (.pair (.leaf 4) (.leaf 4))))],[.leaf 4],λp=>ZUi p.1 p.2⟩)
theorem ZcA:KQ ZSt:=Zl (ZO (C:=cf0 [Z6h,ZOe,Zcp,ZDt,rby_q,Zxp] [] [] []) (.n (.n (.f (.n (.f (.l [1,2,4,5] [] [.s 6 (.dat (.int .i64)),.l (.sl 5) (.box 64 (.dat (.leaf 4)))] 0 [4,5] [] [.l (.sl 5) (.box 64 (.dat (.leaf 4)))] (.f (.n (.f (.f (.n (.n (.n (.two (.n (.j [1,2,4,5,6,10] [] [.l (.sl 5) (.box 64 (.dat (.leaf 4)))] .no)) (.n (.j [1,2,4,5,6] [] [.l (.sl 5) (.box 64 (.dat (.leaf 4)))] .no)))))))))))))))) Tryz.func38 [] (λ_=>by kernel_rfl) ⟨ZFi,Zwf,Zot,Z7B,rby_k,Zhu,tr⟩)
noncomputable def Z7p:FuncId×Con:=(39,⟨[.slice (.pair (.leaf 4) (.pair (.leaf 4) (.pair (.leaf 4) (.leaf 4)))),.slice (.leaf 4),.leaf 4,.slice (.pair (.leaf 4) (.leaf 4))],[.bool],λp=>ZMl p.1 p.2.1 p.2.2.1 p.2.2.2⟩)
theorem Zuw:KQ Z7p:=Zl (ZO (C:=cf0 [ZCf,Z6h,ZGj,ZOe,ZEn,Zxp,Zqj,ZSo] [] [] []) (.n (.n (.n (.two (.n (.f (.l [0,1,3,6,9,10,11] [] [.s 12 (.dat (.int .i64)),.l (.sl 9) (.box 64 (.dat (.leaf 4))),.l (.sl 10) (.box 64 (.dat (.leaf 4))),.l (.sl 11) (.box 64 (.dat (.leaf 4)))] 0 [0,1,3,6,9,10,11] [] [.l (.sl 9) (.box 64 (.dat (.leaf 4))),.l (.sl 10) (.box 64 (.dat (.leaf 4))),.l (.sl 11) (.box 64 (.dat (.leaf 4)))] .no))) (.two (.f (.j [0,1,3] [] [.s 91 (.dat .bool)] .no)) (.f (.n (.f (.cut ⟨⟨[0,1,3],[],[.s 15 (.dat (.int .i64))]⟩,[(.exit 2,⟨[],[],[]⟩),(.ret,⟨[],[],[.s 1000 (.dat .bool)]⟩)]⟩ (.f (.n (.f (.f (.n (.f (.n (.f (.l [0,1,3,15,16] [] [.s 17 (.dat (.int .i64)),.l (.sl 16) (.box 64 (.dat (.leaf 4)))] 4 [0,1,3,15,16] [] [.l (.sl 16) (.box 64 (.dat (.leaf 4)))] .no)))))))))))))))))) Tryz.func39 [] (λ_=>by kernel_rfl) ⟨Zzg,ZFi,ZFk,Zwf,Zys,Zhu,Zqm,ZPv,tr⟩)
noncomputable def Z0q:FuncId×Con:=(13,⟨[.pair (.pair (.leaf 3) (.slice (.pair (.leaf 3) (.leaf 3)))) (.pair (.leaf 3) (.slice (.pair (.leaf 3) (.leaf 3)))),.slice (.pair (.leaf 4) (.pair (.leaf 4) (.pair (.leaf 4) (.leaf 4)))),.slice (.leaf 4)],[.bool],λp=>Z0c p.1 p.2.1 p.2.2⟩)
theorem ZbA:KQ Z0q:=Zl (ZO (C:=cf0 [ZPt,ZZv,ZXr,is1_q,ZSt,Z7p] [] [] []) (.n (.n (.two (.n (.f (.l [1,2,3,7,20,21] [] [.s 22 (.dat (.int .i64)),.l (.sl 7) (.box 101 (.agg (.cons (.dat (.leaf 4)) (.one (.own 103 (.pair (.leaf 4) (.leaf 4)))))))] 0 [1,2,3,7] [] [.l (.sl 7) (.box 101 (.agg (.cons (.dat (.leaf 4)) (.one (.own 103 (.pair (.leaf 4) (.leaf 4)))))))] .no))) (.n (.two (.n (.f (.l [1,2,3,7,42,43] [] [.s 10 (.own 106 (.pair (.leaf 4) (.leaf 4))),.s 44 (.dat (.int .i64))] 2 [1,2,3,7] [] [.s 10 (.own 106 (.pair (.leaf 4) (.leaf 4)))] .no))) (.f (.j [] [] [.s 6 (.dat .bool)] .no))))))) Tryz.func13 [] (λ_=>by kernel_rfl) ⟨ZRx,ZQz,Z0B,is1_k,ZcA,Zuw,tr⟩)
noncomputable def Zuv:FuncId×Con:=(47,⟨[.slice (.leaf 3)],[.int .i64],λp=>ZVi p⟩)
theorem Zpx:KQ Zuv:=Zl (ZO (C:=cf0 [ZRc] [] [] []) (.n (.two (.f (.j [0] [] [.s 12 (.dat .bool)] .no)) (.f (.n (.f (.cut ⟨⟨[13,14],[],[.s 15 (.dat (.int .i64))]⟩,[(.exit 0,⟨[],[],[]⟩),(.ret,⟨[],[],[.s 1000 (.dat (.int .i64))]⟩)]⟩ .no)))))) Tryz.func47 [] (λ_=>by kernel_rfl) ⟨Zsd,tr⟩)
noncomputable def ZGv:FuncId×Con:=(56,⟨[.slice (.pair (.leaf 3) (.pair (.leaf 3) (.pair (.leaf 3) (.leaf 3)))),.slice (.pair (.leaf 3) (.pair (.leaf 3) (.pair (.leaf 3) (.leaf 3)))),.leaf 3],[.slice (.pair (.leaf 3) (.pair (.leaf 3) (.pair (.leaf 3) (.leaf 3))))],λp=>ZZh p.1 p.2.1 p.2.2⟩)
theorem ZnB:KQ ZGv:=Zl (ZO (C:=cf0 [Zdg] [] [] []) (.n (.n (.f (.n (.f (.l [5,13,14] [] [.s 7 (.own 58 (.pair (.leaf 3) (.pair (.leaf 3) (.pair (.leaf 3) (.leaf 3))))),.s 15 (.dat (.int .i64))] 0 [] [] [.s 7 (.own 58 (.pair (.leaf 3) (.pair (.leaf 3) (.pair (.leaf 3) (.leaf 3)))))] .no)))))) Tryz.func56 [] (λ_=>by kernel_rfl) ⟨Z5g,tr⟩)
noncomputable def Zeq:FuncId×Con:=(48,⟨[.slice (.pair (.leaf 3) (.pair (.leaf 3) (.pair (.leaf 3) (.leaf 3)))),.slice (.pair (.leaf 3) (.pair (.leaf 3) (.pair (.leaf 3) (.leaf 3)))),.slice (.leaf 3),.slice (.leaf 3)],[.int .i64,.leaf 3,.int .i64],λp=>Zvi p.1 p.2.1 p.2.2.1 p.2.2.2⟩)
theorem ZWA:KQ Zeq:=Zl (ZO (C:=cf0 [Zue,ZAn,ZGv] [] [] []) (.n (.n (.n (.f (.n (.f (.cut ⟨⟨[0,1,3,9,12,17,18],[],[.s 11 (.dat (.int .i64)),.s 19 (.dat (.int .i64)),.l (.sl 12) (.box 38 (.dat (.leaf 3)))]⟩,[(.exit 0,⟨[9,12],[],[.s 11 (.dat (.int .i64)),.l (.sl 12) (.box 38 (.dat (.leaf 3)))]⟩),(.ret,⟨[],[],[.s 1000 (.dat (.int .i64)),.s 1001 (.dat (.leaf 3)),.s 1002 (.dat (.int .i64))]⟩)]⟩ (.f (.n (.n (.f (.f (.n (.n (.n (.two (.j [0,1,3,9,11,12,13,15,17,18,19] [] [.s 45 (.dat .bool)] .no) (.j [0,1,3,9,12,17,18,19] [] [.s 11 (.dat (.int .i64)),.l (.sl 12) (.box 38 (.dat (.leaf 3)))] .no))))))))))))))))) Tryz.func48 [] (λ_=>by kernel_rfl) ⟨Zjf,Zcq,ZnB,tr⟩)
noncomputable def Zfr:FuncId×Con:=(15,⟨[.slice (.pair (.leaf 3) (.pair (.leaf 3) (.pair (.leaf 3) (.leaf 3)))),.slice (.pair (.leaf 3) (.pair (.leaf 3) (.pair (.leaf 3) (.leaf 3)))),.slice (.leaf 3),.slice (.leaf 3)],[.int .i64,.leaf 3,.int .i64],λp=>Zjh p.1 p.2.1 p.2.2.1 p.2.2.2⟩)
theorem ZJw:KQ Zfr:=Zl (ZO (C:=cf0 [Zjo,Zto,Zuv,Zeq] [200021] [] []) (.n (.f (.n (.f (.cut ⟨⟨[0,1,2,3,9,18],[],[.s 19 (.dat (.int .i64))]⟩,[(.exit 0,⟨[0,1,2,3,9],[],[]⟩),(.ret,⟨[],[],[.s 1000 (.dat (.int .i64)),.s 1001 (.dat (.leaf 3)),.s 1002 (.dat (.int .i64))]⟩)]⟩ (.f (.n (.n (.f (.f (.f (.j [0,1,2,3,9,18,19] [] [.s 12 (.dat (.slice (.pair (.leaf 3) (.pair (.leaf 3) (.pair (.leaf 3) (.leaf 3))))))] .no)))))))))))) Tryz.func15 [] (λ_=>by kernel_rfl) ⟨ZLu,Z0p,Zpx,ZWA,tr⟩)
noncomputable def Zrs:FuncId×Con:=(10,⟨[.slice (.pair (.leaf 4) (.pair (.leaf 4) (.pair (.leaf 4) (.leaf 4))))],[.int .i64],λp=>Zti p⟩)
theorem Z9A:KQ Zrs:=Zl (ZO (C:=cf0 [ZCf] [] [] []) (.n (.two (.f (.j [0] [] [.s 11 (.dat .bool)] .no)) (.f (.n (.f (.cut ⟨⟨[0],[],[.s 3 (.dat (.int .i64))]⟩,[(.exit 0,⟨[],[],[]⟩),(.ret,⟨[],[],[.s 1000 (.dat (.int .i64))]⟩)]⟩ (.f (.n (.f (.f (.f (.j [0,3] [] [.s 51 (.dat .bool)] .no)))))))))))) Tryz.func10 [] (λ_=>by kernel_rfl) ⟨Zzg,tr⟩)
noncomputable def ZVv:FuncId×Con:=(11,⟨[.slice (.leaf 4)],[.int .i64],λp=>ZOl p⟩)
theorem ZTB:KQ ZVv:=Zl (ZO (C:=cf0 [ZCf,Z6h] [] [] []) (.n (.two (.f (.j [0] [] [.s 11 (.dat .bool)] .no)) (.f (.n (.f (.cut ⟨⟨[0],[],[.s 3 (.dat (.int .i64))]⟩,[(.exit 0,⟨[],[],[]⟩),(.ret,⟨[],[],[.s 1000 (.dat (.int .i64))]⟩)]⟩ (.f (.n (.f (.f (.n (.f (.j [0,3] [] [.s 38 (.dat .bool)] .no))))))))))))) Tryz.func11 [] (λ_=>by kernel_rfl) ⟨Zzg,ZFi,tr⟩)
noncomputable def Zeu:FuncId×Con:=(49,⟨[.slice (.leaf 4)],[.int .i64],λp=>Zxk p⟩)
theorem ZOz:KQ Zeu:=Zl (ZO (C:=cf0 [ZCf] [] [] []) (.n (.two (.f (.j [0] [] [.s 11 (.dat .bool)] .no)) (.f (.n (.f (.cut ⟨⟨[0],[],[.s 3 (.dat (.int .i64))]⟩,[(.exit 0,⟨[],[],[]⟩),(.ret,⟨[],[],[.s 1000 (.dat (.int .i64))]⟩)]⟩ .no)))))) Tryz.func49 [] (λ_=>by kernel_rfl) ⟨Zzg,tr⟩)
noncomputable def ZPq:FuncId×Con:=(16,⟨[.slice (.pair (.leaf 4) (.pair (.leaf 4) (.pair (.leaf 4) (.leaf 4)))),.slice (.pair (.leaf 4) (.pair (.leaf 4) (.pair (.leaf 4) (.leaf 4)))),.slice (.leaf 4),.slice (.leaf 4)],[.int .i64],λp=>Zzk p.1 p.2.1 p.2.2.1 p.2.2.2⟩)
theorem ZqC:KQ ZPq:=Zl (ZO (C:=cf0 [Zrs,ZVv,Zeu] [] [] []) .no Tryz.func16 [] (λ_=>by kernel_rfl) ⟨Z9A,ZTB,ZOz,tr⟩)
noncomputable def Zhs:FuncId×Con:=(20,⟨[.slice (.pair (.leaf 4) (.pair (.leaf 4) (.pair (.leaf 4) (.leaf 4)))),.leaf 4],[.slice (.pair (.leaf 4) (.pair (.leaf 4) (.pair (.leaf 4) (.leaf 4))))],λp=>Zed p.1 p.2⟩)
theorem ZzC:KQ Zhs:=Zl (ZO (C:=cf0 [ZGj] [] [] []) (.n (.n (.f (.n (.f (.l [3,5] [] [.s 6 (.dat (.int .i64)),.l (.sl 5) (.own 93 (.pair (.leaf 4) (.pair (.leaf 4) (.pair (.leaf 4) (.leaf 4)))))] 0 [5] [] [.l (.sl 5) (.own 93 (.pair (.leaf 4) (.pair (.leaf 4) (.pair (.leaf 4) (.leaf 4)))))] .no)))))) Tryz.func20 [] (λ_=>by kernel_rfl) ⟨ZFk,tr⟩)
noncomputable def ZLA:FuncId×Con:=(4,⟨[.slice (.pair (.pair (.int .i64) (.int .i64)) (.pair (.pair (.int .i64) (.int .i64)) (.pair (.pair (.int .i64) (.int .i64)) (.pair (.int .i64) (.int .i64))))),.slice (.pair (.pair (.int .i64) (.int .i64)) (.pair (.pair (.int .i64) (.int .i64)) (.pair (.pair (.int .i64) (.int .i64)) (.pair (.int .i64) (.int .i64))))),.slice (.pair (.int .i64) (.int .i64)),.slice (.pair (.int .i64) (.int .i64))],[.bool],λp=>ZKk p.1 p.2.1 p.2.2.1 p.2.2.2⟩)
theorem Zww:KR ZLA:=ZO (C:=cf0 [Zus,ZDu,Zwr,ZLr,Z0q,Zfr,ZPq,Zpj,Zdg,Zue,Zhs] [] [] []) (.n (.two (.f (.j [0,1,2,3] [] [.s 46 (.dat .bool)] .no)) (.n (.n (.n (.n (.n (.two (.n (.n (.f (.f (.j [] [] [.s 8 (.dat .bool)] .no))))) (.two (.f (.j [9,10,11,12,13,14,15,16,17,18] [] [.s 109 (.dat .bool)] .no)) (.f (.n (.f (.cut ⟨⟨[9,10,11,12,14,15,16,17,18,110,111],[],[.s 112 (.dat (.int .i64))]⟩,[(.exit 0,⟨[],[],[]⟩),(.ret,⟨[],[],[.s 1000 (.dat .bool)]⟩)]⟩ (.f (.n (.n (.f (.f (.n (.n (.two (.n (.f (.l [9,10,11,12,14,15,16,17,18,21,22,110,111,112,120,121] [] [.s 23 (.own 58 (.pair (.leaf 3) (.pair (.leaf 3) (.pair (.leaf 3) (.leaf 3))))),.s 122 (.dat (.int .i64))] 2 [9,10,11,12,14,15,16,17,18,21,110,111,112] [] [.s 23 (.own 58 (.pair (.leaf 3) (.pair (.leaf 3) (.pair (.leaf 3) (.leaf 3)))))] .no))) (.n (.n (.f (.j [9,10,11,12,14,15,16,17,18,110,111,112] [] [.s 192 (.dat .bool)] .no))))))))))))))))))))))))) Tryz.func4 [] (λ_=>by kernel_rfl) ⟨Zfx,ZBB,Z3w,ZCw,ZbA,ZJw,ZqC,ZTl,Z5g,Zjf,ZzC,tr⟩
theorem Zfw {w0:World} {v0:Zb} (hv:VIn v0 w0) {c0:List Value} {l:(List ((Int×Int)×(Int×Int)×(Int×Int)×(Int×Int)))} (p0:Rep.rel (ZC (Zq (Zq (Zd .i64) (Zd .i64)) (Zq (Zq (Zd .i64) (Zd .i64)) (Zq (Zq (Zd .i64) (Zd .i64)) (Zq (Zd .i64) (Zd .i64)))))) v0 c0 l) {c1:List Value} {other:(List ((Int×Int)×(Int×Int)×(Int×Int)×(Int×Int)))} (p1:Rep.rel (ZC (Zq (Zq (Zd .i64) (Zd .i64)) (Zq (Zq (Zd .i64) (Zd .i64)) (Zq (Zq (Zd .i64) (Zd .i64)) (Zq (Zd .i64) (Zd .i64)))))) v0 c1 other) {c2:List Value} {rs:(List (Int×Int))} (p2:Rep.rel (ZC (Zq (Zd .i64) (Zd .i64))) v0 c2 rs) {c3:List Value} {tms:(List (Int×Int))} (p3:Rep.rel (ZC (Zq (Zd .i64) (Zd .i64))) v0 c3 tms) {z:Bool} (hm:ZKk l other rs tms=some z):Ret Tryz.prog 4 #[(ZC (Zq (Zq (Zd .i64) (Zd .i64)) (Zq (Zq (Zd .i64) (Zd .i64)) (Zq (Zq (Zd .i64) (Zd .i64)) (Zq (Zd .i64) (Zd .i64)))))).val c0,(ZC (Zq (Zq (Zd .i64) (Zd .i64)) (Zq (Zq (Zd .i64) (Zd .i64)) (Zq (Zq (Zd .i64) (Zd .i64)) (Zq (Zd .i64) (Zd .i64)))))).val c1,(ZC (Zq (Zd .i64) (Zd .i64))).val c2,(ZC (Zq (Zd .i64) (Zd .i64))).val c3] w0 v0 (λy v'=>∃ r0,y=Zvb.val r0∧Zvb.rel v' r0 z):=(Zww w0 v0 [(ZC (Zq (Zq (Zd .i64) (Zd .i64)) (Zq (Zq (Zd .i64) (Zd .i64)) (Zq (Zq (Zd .i64) (Zd .i64)) (Zq (Zd .i64) (Zd .i64)))))).val c0,(ZC (Zq (Zq (Zd .i64) (Zd .i64)) (Zq (Zq (Zd .i64) (Zd .i64)) (Zq (Zq (Zd .i64) (Zd .i64)) (Zq (Zd .i64) (Zd .i64)))))).val c1,(ZC (Zq (Zd .i64) (Zd .i64))).val c2,(ZC (Zq (Zd .i64) (Zd .i64))).val c3] (l,other,rs,tms) z hv ⟨c0,_,rfl,p0,c1,_,rfl,p1,c2,_,rfl,p2,c3,rfl,p3⟩ hm).2
end Go.Eng
