/- Lemmas towards the statement: the engine of the walks, the functions' models, laws and walks, part 8. Conditions: as each states. -/
import Derived.Test.YtgplcnjanfledaaGreatProg
import Derived.Test.YtgplcnjanfledaaGreatSuG
set_option linter.all false
set_option maxHeartbeats 4000000
set_option maxRecDepth 100000
namespace Go.Eng
open Go.RowKit
variable {a:Rat}
section
open Go.Proofs
noncomputable def FD:FuncId×eu:=(136,⟨[.leaf 1,.leaf 1],[.leaf 1],λp=>mH p.1 p.2⟩)
theorem Km:KQ FD:=Zi (ZC (C:=ft [(49,1),(51,4)] [qe]) (.n (.n (.n (.f (.n (.j [] [] [.s 5 (.own 223 (.int .u32)),.s 6 (.dat (.int .u64))] (.f (.l [0,1] [] [.s 5 (.own 223 (.int .u32)),.s 6 (.dat (.int .u64)),.s 7 (.dat (.int .i64))] 0 [] [] [.s 5 (.own 223 (.int .u32)),.s 6 (.dat (.int .u64))] (.f (.two (.f (.j [0,1,5,6,7] [] [.s 18 (.dat .bool)] .no)) (.f (.f (.two (.n (.j [0,1,5,7] [] [.s 6 (.dat (.int .u64))] .no)) (.f (.n (.j [0,1,5,7] [] [.s 6 (.dat (.int .u64))] .no)))))))))))))))) Tryz.func136 [] (λv c x z b a=>.trans (by kernel_rfl) (YL a)) ⟨vP,tr⟩)
theorem tR{y:Rat}(h:wT a)(t:wT y):Nk a y=some (a+y):=by
 obtain⟨E,F⟩:=h;obtain⟨G,H⟩:=t;unfold Nk lg;have C:=js a.num.natAbs y.den;have D:=js y.num.natAbs a.den;have J:=js a.den y.den;have m:=Jh (a.num.natAbs*y.den) (y.num.natAbs*a.den);have x:a.den*y.den≠0:=Nat.mul_ne_zero a.den_nz y.den_nz;have o:gJ a.num.natAbs y.den=some (a.num.natAbs*y.den):=by unfold gJ;rw[iP ⟨gH (by omega),gH (by omega)⟩]
 have p:gJ y.num.natAbs a.den=some (y.num.natAbs*a.den):=by unfold gJ;rw[iP ⟨gH (by omega),gH (by omega)⟩]
 have r:gJ a.den y.den=some (a.den*y.den):=by unfold gJ;rw[iP ⟨gH (by omega),gH (by omega)⟩]
 have g:((a.num.natAbs*y.den:Nat):Int)=(a.num.natAbs:Int)*y.den:=by simp
 have f:((y.num.natAbs*a.den:Nat):Int)=(y.num.natAbs:Int)*a.den:=by simp
 have i:∀(s:Bool) (n:Nat),bl n≤1099511627776→fE s n=a.num*y.den+y.num*a.den→gy s n (a.den*y.den)=some (a+y):=by
  intro s n B z;unfold gy;rw[iP ⟨jo B,jo (by omega),x⟩,z,←Rat.add_def']
 rw[Za,Za,o,Za,p,Za,r];obtain⟨N,v⟩:∃N,N=a.num.natAbs*y.den:=⟨_,rfl⟩;obtain⟨M,u⟩:∃M,M=y.num.natAbs*a.den:=⟨_,rfl⟩;rw[←v]at C m g ⊢;rw[←u]at D m f ⊢;have j:a.num*(y.den:Int)=if a.num<0 then -(N:Int) else N:=by
  split
  ·rw[g,←Int.neg_mul];congr 1;omega
  ·rw[g];congr 1;omega
 have l:y.num*(a.den:Int)=if y.num<0 then -(M:Int) else M:=by
  split
  ·rw[f,←Int.neg_mul];congr 1;omega
  ·rw[f];congr 1;omega
 by_cases hs:(a.num<0)↔(y.num<0)
 ·have c:mH N M=some (N+M):=by unfold mH;rw[iP ⟨gH (by omega),gH (by omega)⟩]
  have d:((decide (a.num<0))==(decide (y.num<0)))=true:=by
   by_cases h:a.num<0
   ·simp[h,hs.1 h]
   ·have b:¬y.num<0:=λk=>h (hs.2 k);simp[h,b]
  rw[d,Ze,c,Za,Za,i _ _ (by omega) ?_,Za];rw[j,l];unfold fE;by_cases h:a.num<0
  ·have b:=hs.1 h;simp[h,b];omega
  ·have b:¬y.num<0:=λk=>h (hs.2 k);simp[h,b]
 ·have d:((decide (a.num<0))==(decide (y.num<0)))=false:=by
   apply beq_false_of_ne;intro h;exact hs (by by_cases k:a.num<0 <;> by_cases I:y.num<0 <;> simp_all)
  rw[d,Zf];unfold j6;rw[Za];by_cases A:M≤N
  ·have e:decide ((0:Int)≤Z5 N M)=true:=by
    unfold Z5;rw[iN (by omega)];split <;> rfl
   have c:ke N M=some (N-M):=by unfold ke;rw[iP ⟨gH (by omega),A⟩]
   have w:bl (N-M)≤bl N:=qi (by omega);rw[e,Ze,c,Za,Za,i _ _ (by omega) ?_,Za];rw[j,l];unfold fE;by_cases h:a.num<0
   ·have b:¬y.num<0:=λk=>hs ⟨λ_=>k,λ_=>h⟩;simp[h,b];omega
   ·have b:y.num<0:=by
     rcases Int.lt_or_le y.num 0 with k |k
     ·exact k
     ·exact absurd ⟨λq=>absurd q h,λq=>absurd q (by omega)⟩ hs
    simp[h,b];omega
  ·have e:decide ((0:Int)≤Z5 N M)=false:=by
    unfold Z5;rw[iP (by omega)];rfl
   have c:ke M N=some (M-N):=by unfold ke;rw[iP ⟨gH (by omega),by omega⟩]
   have w:bl (M-N)≤bl M:=qi (by omega);rw[e,Zf,c,Za,Za,i _ _ (by omega) ?_,Za];rw[j,l];unfold fE;by_cases h:a.num<0
   ·have b:¬y.num<0:=λk=>hs ⟨λ_=>k,λ_=>h⟩;simp[h,b];omega
   ·have b:y.num<0:=by
     rcases Int.lt_or_le y.num 0 with k |k
     ·exact k
     ·exact absurd ⟨λq=>absurd q h,λq=>absurd q (by omega)⟩ hs
    simp[h,b];omega
theorem ZzA{y z:Rat}(h:Z2 a y=some z):Nk a y=some z:=by
 unfold Z2 at h;split at h
 ·rename_i b;rw[tR b.1 b.2,h]
 ·cases h
noncomputable def Fo:FuncId×eu:=(142,⟨[.leaf 4,.leaf 4],[.leaf 4],λp=>Z2 p.1 p.2⟩)
theorem LX:KQ Fo:=Zi (ZC (C:=ft [(49,1),(51,4)] [pJ,FD,Ea,CG,Nm,CK]) .no Tryz.func142 [] (λv c x z b a=>.trans (by kernel_rfl) (ZzA a)) ⟨pS,Km,Gd,Gl,TK,G1,tr⟩)
noncomputable def JP:FuncId×eu:=(85,⟨[.pair (.leaf 4) (.pair (.leaf 4) (.pair (.leaf 4) (.leaf 4))),.pair (.leaf 4) (.pair (.leaf 4) (.pair (.leaf 4) (.leaf 4)))],[.pair (.leaf 4) (.pair (.leaf 4) (.pair (.leaf 4) (.leaf 4)))],λp=>Cy p.1 p.2⟩)
theorem Ox:KQ JP:=Zi (Zm (C:=eD [Fo] [] [] []) .no Tryz.func85 [] (λ_=>by kernel_rfl) ⟨LX,tr⟩)
theorem t8(h:i7 a):I1 a=some (-a):=by
 obtain⟨b,c⟩:=h;unfold I1 lg gy;rw[Za,iP ⟨jo b,jo c,a.den_nz⟩,Za];congr 1;have e:fE (!(decide (a.num<0))) a.num.natAbs= -a.num:=by
  unfold fE;by_cases h:a.num<0
  ·simp[h];omega
  ·simp[h];omega
 rw[e];exact Rat.mkRat_self (-a)
theorem VW{z:Rat}(h:qR a=some z):I1 a=some z:=by
 unfold qR at h;split at h
 ·rename_i b;rw[t8 b,h]
 ·cases h
noncomputable def Qo:FuncId×eu:=(184,⟨[.leaf 4],[.leaf 4],λp=>qR p⟩)
theorem Af:KQ Qo:=Zi (ZC (C:=ft [(49,1),(51,4)] [pJ,CK]) .no Tryz.func184 [] (λv c x z b a=>.trans (by kernel_rfl) (VW a)) ⟨pS,G1,tr⟩)
noncomputable def Ul:FuncId×eu:=(141,⟨[.pair (.leaf 4) (.pair (.leaf 4) (.pair (.leaf 4) (.leaf 4)))],[.pair (.leaf 4) (.pair (.leaf 4) (.pair (.leaf 4) (.leaf 4)))],λp=>Gc p⟩)
theorem Ak:KQ Ul:=Zi (Zm (C:=eD [Qo] [] [] []) .no Tryz.func141 [] (λ_=>by kernel_rfl) ⟨Af,tr⟩)
noncomputable def Ig:FuncId×eu:=(83,⟨[.pair (.leaf 4) (.pair (.leaf 4) (.pair (.leaf 4) (.leaf 4))),.pair (.leaf 4) (.pair (.leaf 4) (.pair (.leaf 4) (.leaf 4)))],[.pair (.leaf 4) (.pair (.leaf 4) (.pair (.leaf 4) (.leaf 4)))],λp=>w9 p.1 p.2⟩)
theorem Lp:KQ Ig:=Zi (Zm (C:=eD [JP,Ul] [] [] []) .no Tryz.func83 [] (λ_=>by kernel_rfl) ⟨Ox,Ak,tr⟩)
noncomputable def TB:FuncId×eu:=(158,⟨[.pair (.pair (.leaf 4) (.pair (.leaf 4) (.pair (.leaf 4) (.leaf 4)))) (.pair (.leaf 4) (.pair (.leaf 4) (.pair (.leaf 4) (.leaf 4)))),.pair (.pair (.leaf 4) (.pair (.leaf 4) (.pair (.leaf 4) (.leaf 4)))) (.pair (.leaf 4) (.pair (.leaf 4) (.pair (.leaf 4) (.leaf 4))))],[.pair (.pair (.leaf 4) (.pair (.leaf 4) (.pair (.leaf 4) (.leaf 4)))) (.pair (.leaf 4) (.pair (.leaf 4) (.pair (.leaf 4) (.leaf 4))))],λp=>OE p.1 p.2⟩)
theorem AD:KQ TB:=Zi (Zm (C:=eD [Ig] [] [] []) .no Tryz.func158 [] (λ_=>by kernel_rfl) ⟨Lp,tr⟩)
noncomputable def Sq:FuncId×eu:=(107,⟨[.pair (.pair (.leaf 4) (.pair (.leaf 4) (.pair (.leaf 4) (.leaf 4)))) (.pair (.leaf 4) (.pair (.leaf 4) (.pair (.leaf 4) (.leaf 4)))),.pair (.pair (.leaf 4) (.pair (.leaf 4) (.pair (.leaf 4) (.leaf 4)))) (.pair (.leaf 4) (.pair (.leaf 4) (.pair (.leaf 4) (.leaf 4))))],[.bool],λp=>RJ p.1 p.2⟩)
theorem uP:KQ Sq:=Zi (Zm (C:=eD [Uh,TB] [] [] []) .no Tryz.func107 [] (λ_=>by kernel_rfl) ⟨uQ,AD,tr⟩)
noncomputable def wG:FuncId×eu:=(54,⟨[.slice (.leaf 3),.slice (.pair (.pair (.leaf 4) (.pair (.leaf 4) (.pair (.leaf 4) (.leaf 4)))) (.pair (.leaf 4) (.pair (.leaf 4) (.pair (.leaf 4) (.leaf 4)))))],[.bool],λp=>wF p.1 p.2⟩)
theorem EH:KQ wG:=Zi (Zm (C:=eD [MD,wE,Sq] [] [] []) (.n (.n (.f (.n (.f (.cut ⟨⟨[0,1,12],[],[.s 13 (.dat (.int .i64))]⟩,[(.exit 0,⟨[],[],[]⟩),(.ret,⟨[],[],[.s 1000 (.dat .bool)]⟩)]⟩ (.f (.n (.n (.f (.f (.n (.f (.j [0,1,12,13] [] [.s 42 (.dat .bool)] .no)))))))))))))) Tryz.func54 [] (λ_=>by kernel_rfl) ⟨Uj,EG,uP,tr⟩)
noncomputable def Qe:FuncId×eu:=(18,⟨[.slice (.slice (.leaf 3)),.slice (.slice (.pair (.pair (.leaf 4) (.pair (.leaf 4) (.pair (.leaf 4) (.leaf 4)))) (.pair (.leaf 4) (.pair (.leaf 4) (.pair (.leaf 4) (.leaf 4))))))],[.bool],λp=>KC p.1 p.2⟩)
theorem Y2:KQ Qe:=Zi (Zm (C:=eD [wG] [] [] []) (.n (.n (.f (.n (.f (.cut ⟨⟨[0,1,12],[],[.s 13 (.dat (.int .i64))]⟩,[(.exit 0,⟨[],[],[]⟩),(.ret,⟨[],[],[.s 1000 (.dat .bool)]⟩)]⟩ .no)))))) Tryz.func18 [] (λ_=>by kernel_rfl) ⟨EH,tr⟩)
noncomputable def Fj:FuncId×eu:=(59,⟨[.slice (.leaf 3)],[.bool],λp=>A4 p⟩)
theorem Mt:KQ Fj:=Zi (Zm (C:=eD [x9] [] [] [((42,"Sign"),227),((77,"Sign"),251)]) .no Tryz.func59 [(113,Tryz.f113,.no),(114,Tryz.f114,.no),(151,Tryz.f151,.r [] [] [.s 1000 (.dat (.int .i64))] (.n (.f (.n (.f (.cut ⟨⟨[0,1,7],[],[.s 8 (.dat (.int .i64))]⟩,[(.exit 0,⟨[],[],[]⟩),(.ret,⟨[],[],[.s 1000 (.dat (.int .i64))]⟩)]⟩ .no))))))] (λ_=> by kernel_rfl) ⟨AV,tr⟩ tr ⟨oJ,pm,tr⟩ ⟨⟨Tryz.func113,λ_ _=> by kernel_rfl⟩,⟨Tryz.func114,λ_ _=> by kernel_rfl⟩,⟨Tryz.func151,λ_ _=> by kernel_rfl⟩,tr⟩)
noncomputable def G5:FuncId×eu:=(61,⟨[.slice (.leaf 3),.slice (.leaf 3)],[.bool],λp=>G2 p.1 p.2⟩)
theorem JR:KQ G5:=Zi (Zm (C:=eD [GR] [] [] [((42,"Cmp"),220),((77,"Cmp"),244)]) (.n (.f (.n (.f (.cut ⟨⟨[0,1,7],[],[.s 8 (.dat (.int .i64))]⟩,[(.exit 0,⟨[],[],[]⟩),(.ret,⟨[],[],[.s 1000 (.dat .bool)]⟩)]⟩ .no))))) Tryz.func61 [] (λ_=> by kernel_rfl) ⟨Ng,tr⟩ tr ⟨BT,B',tr⟩)
noncomputable def Jo:FuncId×eu:=(58,⟨[.slice (.leaf 3),.slice (.leaf 3)],[.leaf 3],λp=>A0 p.1 p.2⟩)
theorem Pm:KQ Jo:=Zi (Zm (C:=eD [qj,BI,BE] [] [] [((42,"Add"),219),((42,"Mul"),222),((77,"Add"),243),((77,"Mul"),246)]) (.n (.n (.f (.n (.f (.l [0,1,4,5,9] [] [.s 10 (.dat (.int .i64)),.l (.sl 5) (.box 77 (.dat (.leaf 3)))] 0 [4,5] [] [.l (.sl 5) (.box 77 (.dat (.leaf 3)))] .no)))))) Tryz.func58 [] (λ_=> by kernel_rfl) ⟨vr,Dh,DZ,tr⟩ tr ⟨vC,p9,v8,pW,tr⟩)
noncomputable def Nl:FuncId×eu:=(62,⟨[.slice (.slice (.leaf 3)),.slice (.leaf 3)],[.slice (.leaf 3)],λp=>KG p.1 p.2⟩)
theorem Rc:KQ Nl:=Zi (Zm (C:=eD [Jo] [] [] []) (.n (.n (.f (.n (.f (.l [1,8,9] [] [.s 5 (.own 77 (.leaf 3)),.s 10 (.dat (.int .i64))] 0 [] [] [.s 5 (.own 77 (.leaf 3))] .no)))))) Tryz.func62 [] (λ_=>by kernel_rfl) ⟨Pm,tr⟩)
noncomputable def Oa:FuncId×eu:=(56,⟨[.pair (.slice (.slice (.leaf 3))) (.pair (.slice (.leaf 3)) (.slice (.leaf 3))),.slice (.leaf 3)],[.bool],λp=>OO p.1 p.2⟩)
theorem ZpD:KQ Oa:=Zi (Zm (C:=eD [Fj,G5,Nl] [] [] []) (.n (.f (.j [] [] [.s 4 (.dat .bool)] .no))) Tryz.func56 [] (λ_=>by kernel_rfl) ⟨Mt,JR,Rc,tr⟩)
noncomputable def Lg:FuncId×eu:=(60,⟨[.pair (.slice (.slice (.leaf 3))) (.pair (.slice (.leaf 3)) (.slice (.leaf 3))),.slice (.leaf 3)],[.slice (.leaf 3)],λp=>Me p.1 p.2⟩)
theorem S':KQ Lg:=Zi (Zm (C:=eD [BI,BE] [] [Dw] [((42,"Add"),219),((42,"Mul"),222),((77,"Add"),243),((77,"Mul"),246)]) (.n (.n (.f (.n (.f (.l [1,5,15,16] [] [.s 17 (.dat (.int .i64)),.l (.sl 5) (.own 77 (.leaf 3))] 0 [5] [] [.l (.sl 5) (.own 77 (.leaf 3))] (.f (.n (.n (.f (.f (.n (.n (.f (.l [1,5,6,15,16,17,22,23] [] [.s 24 (.dat (.int .i64)),.l (.sl 5) (.own 77 (.leaf 3))] 2 [1,5,15,16,17] [] [.l (.sl 5) (.own 77 (.leaf 3))] .no))))))))))))))) Tryz.func60 [] (λ_=> by kernel_rfl) ⟨Dh,DZ,tr⟩ ⟨Hj,tr⟩ ⟨vC,p9,v8,pW,tr⟩)
noncomputable def OB:FuncId×eu:=(57,⟨[.pair (.slice (.slice (.leaf 3))) (.pair (.slice (.leaf 3)) (.slice (.leaf 3))),.slice (.leaf 3)],[.bool],λp=>OR p.1 p.2⟩)
theorem tl:KQ OB:=Zi (Zm (C:=eD [Fj,Lg,G5] [] [] []) (.n (.f (.j [] [] [.s 4 (.dat .bool)] .no))) Tryz.func57 [] (λ_=>by kernel_rfl) ⟨Mt,S',JR,tr⟩)
theorem XN{y:Rat}{z:Bool}(h:Dg a y=some z):NY a y=some z:=by
 unfold Dg at h
 cases h
 unfold NY nc;by_cases b:a=y
 ·subst b;simp only[beq_self_eq_true,Ze,Za,UW,decide_true]
 ·rw[eg b];by_cases hs:decide (a.num<0)=decide (y.num<0)
  ·rw[hs];simp only[beq_self_eq_true,Ze,Za,UW];by_cases c:a.num.natAbs=y.num.natAbs
   ·rw[eo c,Ze,Za];have i:a.num=y.num:=by
     by_cases d:a.num<0 <;> by_cases f:y.num<0 <;> simp[d,f]at hs <;> omega
    have g:¬ZJ a.den=ZJ y.den:=λe=>b (Rat.ext i (Yt a.den_nz y.den_nz e));rw[eg g]
   ·rw[eg c,Zf,Za]
  ·have e:(decide (a.num<0)==decide (y.num<0))=false:=by simpa using hs
   rw[e,Zf,Za]
noncomputable def QA:FuncId×eu:=(250,⟨[.leaf 3,.leaf 3],[.bool],λp=>Dg p.1 p.2⟩)
theorem tH:KQ QA:=Zi (ZC (C:=eD [FA] [] [] []) (.n (.f (.j [] [] [.s 4 (.dat .bool)] .no))) Tryz.func250 [] (λv c x z b a=>.trans (by kernel_rfl) (XN a)) ⟨wt,tr⟩)
noncomputable def PO:FuncId×eu:=(20,⟨[.pair (.slice (.slice (.leaf 3))) (.pair (.slice (.leaf 3)) (.slice (.leaf 3))),.pair (.int .i64) (.pair (.leaf 3) (.pair (.slice (.leaf 3)) (.pair (.slice (.leaf 3)) (.slice (.leaf 3)))))],[.bool],λp=>OH p.1 p.2⟩)
theorem VT:KQ PO:=Zi (Zm (C:=eD [LA,Oa,OB,Jo,Fj,Lg,G5,Nl,QA,x9,BU] [] [Dw] [((42,"Same"),226),((42,"Sign"),227),((42,"Zero"),229),((77,"Same"),250),((77,"Sign"),251),((77,"Zero"),253)]) (.n (.n (.two (.j [2,3] [] [.s 5 (.dat .bool)] .no) (.f (.n (.f (.n (.two (.f (.j [] [] [.s 4 (.dat .bool)] .no)) (.n (.two (.f (.j [] [] [.s 4 (.dat .bool)] .no)) (.n (.f (.two (.f (.j [2,3] [] [.s 135 (.dat .bool)] .no)) (.f (.j [] [] [.s 4 (.dat .bool)] .no))))))))))))))) Tryz.func20 [] (λ_=> by kernel_rfl) ⟨OU,ZpD,tl,Pm,Mt,S',JR,Rc,tH,AV,DA,tr⟩ ⟨Hj,tr⟩ ⟨RK,oJ,xF,QB,pm,xA,tr⟩)
noncomputable def S5:FuncId×eu:=(5,⟨[],[.bool],λ_=>xt⟩)
theorem ZcB:KQ S5:=Zi (Zm (C:=eD [Jk,RP,P8,RU,Rk,Qe,Gg,PO] [] [] []) (.n (.n (.n (.n (.n (.n (.n (.n (.f (.j [] [] [.s 0 (.dat .bool)] .no)))))))))) Tryz.func5 [] (λ_=>by kernel_rfl) ⟨Pu,ZoF,Wm,Yk,XO,Y2,Mj,VT,tr⟩)
theorem mi{P:Program}{f:FuncId}{c a:eu}(h:mq P f c)(A:ZF a.args→ZF c.args)(j:∀v b x,gW v a.args b x→gW v c.args b (A x))(B:∀x z,a.F x=some z→∃d,c.F (A x)=some d∧∀v y,nx v c.res y d→nx v a.res y z):mq P f a:=λw v b x z m k n=>by
 obtain⟨d,i,g⟩:=B x z n
 rcases h w v b (A x) d m (j v b x k) i with⟨e,r⟩ |⟨y,e,r⟩
 ·exact .inl ⟨e,r.mono λr o _ l=>g _ _ l⟩
 ·exact .inr ⟨y,e,g _ _ r⟩
theorem l9{b:Type}{p:Prop}{Zl:Decidable p}{a z:b}(h:(if p then some a else none)=some z):p∧a=z:=by
 by_cases hp:p
 ·rw[iP hp]at h;exact⟨hp,Option.some.inj h⟩
 ·rw[iN hp]at h;cases h
noncomputable def Ew:FuncId×eu:=(119,⟨[.pair (.leaf 2) (.pair (.leaf 2) (.pair (.leaf 2) (.leaf 2))),.leaf 0],[.pair (.pair (.leaf 2) (.pair (.leaf 2) (.pair (.leaf 2) (.leaf 2)))) (.leaf 0)],λp=>xr p.1 p.2⟩)
theorem H5:KQ Ew:=Zi (Zm (C:=eD [BK,nT,Gn] [] [] []) (.n (.n (.two (.n (.f (.unroll 5 .no))) (.two (.n (.j [2,4] [] [.s 1 (.dat (.leaf 0)),.l (.sl 2) (.box 40 (.dat (.pair (.leaf 2) (.pair (.leaf 2) (.pair (.leaf 2) (.leaf 2))))))] (.f (.f (.n (.f (.unroll 5 .no))))))) (.f (.n (.j [2,4] [] [.s 1 (.dat (.leaf 0))] .no))))))) Tryz.func119 [] (λ_=>by kernel_rfl) ⟨Ie,wA,Jp,tr⟩)
noncomputable def TR:FuncId×eu:=(63,⟨[.pair (.leaf 3) (.pair (.leaf 3) (.pair (.leaf 3) (.leaf 3)))],[.pair (.pair (.leaf 2) (.pair (.leaf 2) (.pair (.leaf 2) (.leaf 2)))) (.leaf 0)],λp=>Jy p⟩)
theorem uR:KQ TR:=Zi (Zm (C:=eD [qQ,x6,oX,BK,w8,Ew] [] [] []) (.n (.n (.two (.n (.f (.unroll 5 .no))) (.n (.f (.n (.f (.unroll 5 .no)))))))) Tryz.func63 [] (λ_=>by kernel_rfl) ⟨vL,CA,qE,Ie,AK,H5,tr⟩)
noncomputable def L3:FuncId×eu:=(63,⟨[(.pair (.leaf 3) (.pair (.leaf 3) (.pair (.leaf 3) (.leaf 3))))],[.leaf 8],λx=>Id x⟩)
theorem ZhD:KQ L3:=by
 have a:=uR;unfold KQ TR at a;unfold KQ L3
 dsimp only at a
 dsimp only
 refine mi a (λx=>x) (λv d x h=>h) ?_;intro x z b
 dsimp only at b ⊢
 simp only[Id]at b;obtain⟨c,rfl⟩:=l9 b;exact⟨_,Xf c (by decide),λv y h=>h⟩
noncomputable def QV:FuncId×eu:=(21,⟨[.pair (.pair (.int .i64) (.int .i64)) (.pair (.pair (.int .i64) (.int .i64)) (.pair (.pair (.int .i64) (.int .i64)) (.pair (.int .i64) (.int .i64))))],[.leaf 8],λp=>GI p⟩)
theorem ZiB:KQ QV:=Zi (Zm (C:=sL (eD [L3,Ld] [] [] [])) .no Tryz.func21 [] (λ_=>by kernel_rfl) ⟨ZhD,NT,tr⟩)
noncomputable def NM:FuncId×eu:=(22,⟨[.pair (.pair (.int .i64) (.int .i64)) (.pair (.pair (.int .i64) (.int .i64)) (.pair (.pair (.int .i64) (.int .i64)) (.pair (.int .i64) (.int .i64))))],[.pair (.leaf 4) (.pair (.leaf 4) (.pair (.leaf 4) (.leaf 4)))],λp=>H6 p⟩)
theorem VD:KQ NM:=Zi (Zm (C:=eD [Gq] [] [] []) .no Tryz.func22 [] (λ_=>by kernel_rfl) ⟨og,tr⟩)
noncomputable def On:FuncId×eu:=(6,⟨[.slice (.pair (.pair (.int .i64) (.int .i64)) (.pair (.pair (.int .i64) (.int .i64)) (.pair (.pair (.int .i64) (.int .i64)) (.pair (.int .i64) (.int .i64)))))],[.slice (.leaf 8),.slice (.pair (.leaf 4) (.pair (.leaf 4) (.pair (.leaf 4) (.leaf 4))))],λp=>A7 p⟩)
theorem ZwD:KQ On:=Zi (Zm (C:=sL (eD [QV,NM] [] [] [])) (.n (.n (.n (.f (.n (.f (.l [8,9] [] [.s 4 (.own 42 (.leaf 8)),.s 5 (.own 53 (.pair (.leaf 4) (.pair (.leaf 4) (.pair (.leaf 4) (.leaf 4))))),.s 10 (.dat (.int .i64))] 0 [] [] [.s 4 (.own 42 (.leaf 8)),.s 5 (.own 53 (.pair (.leaf 4) (.pair (.leaf 4) (.pair (.leaf 4) (.leaf 4)))))] .no))))))) Tryz.func6 [] (λ_=>by kernel_rfl) ⟨ZiB,VD,tr⟩)
noncomputable def Nd:FuncId×eu:=(23,⟨[.pair (.slice (.slice (.leaf 8))) (.pair (.slice (.leaf 8)) (.slice (.leaf 8)))],[.int .i64],λp=>AO p⟩)
theorem TX:KQ Nd:=Zi (Zm (C:=sL (eD [] [] [] [])) (.n (.f (.f (.j [] [] [.s 27 (.dat .bool)] .no)))) Tryz.func23 [(66,Tryz.f66,.no),(67,Tryz.f67,.no),(122,Tryz.f122,.r [] [] [.s 1000 (.dat (.int .i64))] (.n (.f (.n (.f (.cut ⟨⟨[0,1,7],[],[.s 8 (.dat (.int .i64))]⟩,[(.exit 0,⟨[],[],[]⟩),(.ret,⟨[],[],[.s 1000 (.dat (.int .i64))]⟩)]⟩ .no))))))] (λ_=>by kernel_rfl) tr tr tr ⟨⟨Tryz.func66,λ_ _=>by kernel_rfl⟩,⟨Tryz.func67,λ_ _=>by kernel_rfl⟩,⟨Tryz.func122,λ_ _=>by kernel_rfl⟩,tr⟩)
noncomputable def UJ:FuncId×eu:=(225,⟨[.pair (.pair (.leaf 2) (.pair (.leaf 2) (.pair (.leaf 2) (.leaf 2)))) (.leaf 0),.leaf 3],[.pair (.pair (.leaf 2) (.pair (.leaf 2) (.pair (.leaf 2) (.leaf 2)))) (.leaf 0)],λp=>Jm p.1 p.2⟩)
theorem Al:KQ UJ:=Zi (Zm (C:=eD [] [] [] []) .no Tryz.func225 [] (λ_=>by kernel_rfl))
noncomputable def Kj:FuncId×eu:=(225,⟨[.leaf 8,.leaf 3],[.leaf 8],λx=>G3 x.1 x.2⟩)
theorem Av:KQ Kj:=by
 have a:=Al;unfold KQ UJ at a;unfold KQ Kj
 dsimp only at a
 dsimp only
 refine mi a (λx=>(cn x.1,x.2)) (λv d x h=>h) ?_;intro x z b
 dsimp only at b ⊢
 simp only[G3]at b;obtain⟨c,rfl⟩:=l9 b;exact⟨_,ut _ _,λv y h=>h⟩
noncomputable def xZ:FuncId×eu:=(69,⟨[.int .i64],[.leaf 8],λp=>iJ p⟩)
theorem Bg:KQ xZ:=Zi (Zm (C:=sL (eD [G4,Kj] [] [] [((42,"Of"),225),((77,"Of"),249)])) .no Tryz.func69 [] (λ_=> by kernel_rfl) ⟨I',Av,tr⟩ tr ⟨OK,Qj,tr⟩)
theorem K7:eZ Tryz.prog 27 42 (gb).n 152 (Value.agg #[Value.bool false,Value.slice none 0 0,Value.bool false,Value.slice none 0 0,Value.bool false,Value.slice none 0 0,Value.bool false,Value.slice none 0 0,Value.slice none 0 0]):=⟨Tryz.underlying27,by kernel_rfl,rfl,by decide⟩
theorem Hw:jf Tryz.prog 27 42 (gb).n:=⟨λ_=>by kernel_rfl,λ_=>by kernel_rfl⟩
theorem Yo:Tryz.prog.follows .mixedOrders=true:=by kernel_rfl
theorem XP:ZT Tryz.prog 146:=λ_ _=>by kernel_rfl
theorem OJ:C9 Tryz.prog 3 231 .i64 .u64:=λ_ _=>by kernel_rfl
theorem ZqD:C9 Tryz.prog 231 3 .u64 .i64:=λ_ _=>by kernel_rfl
noncomputable def Bj:FuncId×f7:=(92,⟨[.slice (.leaf 8),.int .i64],42,.leaf 8,λp=>iY 152 p.1 p.2⟩)
theorem Hb:o8 Tryz.prog Bj.1 Bj.2:=λw v aq x z hv ha K=>by
 obtain⟨cs,vs,rfl,p0,o,rfl,rfl,am⟩:=ha
 obtain⟨x1,k0⟩:=x
 have K:iY 152 (show List Su from x1) k0=some z:=K
 obtain⟨y,J,ah,aa⟩:=Ro K
 have J:x1=[y]:=J
 subst J ah
 obtain⟨P,_,a6,a7⟩:=nA aa
 obtain⟨k,rfl⟩:=oZ P
 obtain⟨q,c,e,ak,al,G⟩:=(show(Zy gb).rel v cs [y] from p0)
 subst e
 rcases G with G |⟨b,A,cc,TT,fr,rfl,af,W⟩
 ·cases G
 have a9:([y]:List Su).length=1:=rfl
 rw[a9]at W
 obtain⟨o,c2,O,H,D⟩:=W
 have D:c2=[]:=D
 subst D
 rw[List.append_nil,Nat.one_mul]at O
 have F:=ee.len _ H
 have a0:At v b A o:=⟨cc,TT,fr,af,by rw[F];exact O⟩
 refine⟨λ_ _=>by kernel_rfl,?_⟩
 have U:((k:Int).toNat)=k:=tN k
 rw[U]
 refine Ch (K:=48) (args:=[.slice (some ⟨b,A,none⟩) 1 c,.int .i64 (k:Int)]) hv Tryz.func92 rfl rfl zl λf d=>?_
 refine sr ?_
 refine mw d rfl λf d=>?_
 refine oe ?_
 refine wp_seq_k λN1 a1=>?_
 refine sr ?_
 refine mv d rfl λf d=>?_
 refine ov d rfl (ZD d rfl rfl m5) λf d=>?_
 refine oe ?_
 refine gn d rfl (eg (by omega)) ?_
 refine wp_skip ?_
 refine Zp (a1 _ _ ?_)
 refine sr ?_
 refine mv d rfl λf d=>?_
 refine ov d rfl (iw d rfl rfl Hw) λf d=>?_
 refine ov d rfl (oU d rfl (OJ _)) λf d=>?_
 refine mv d rfl λf d=>?_
 refine ov d rfl (oU d rfl (OJ _)) λf d=>?_
 have w1:IntKind.u64.wrap ((1:Nat):Int)=1:=by decide
 have w2:IntKind.u64.wrap (k:Int)=k:=lx (kE.2 (by omega))
 rw[w1,w2]at d
 have ab:BQ 1 (k:Int)=some (0,(k:Int)):=by
  unfold BQ kO;rw[iP (by omega),Za];simp only;congr 2 <;> omega
 refine Li d wn rfl zl (gz d [.int .u64 1,.int .u64 (k:Int)] XP rfl rfl) (R0 d.vin (show ee.rel (Zd .u64) _ [.int .u64 1] 1 from Z7 (by decide)) (show ee.rel (Zd .u64) _ [.int .u64 (k:Int)] (k:Int) from Z7 (kE.2 (by omega))) ab) ?_;rintro _ v1 f M an ⟨r0,r1,rfl,⟨rfl,_⟩,⟨rfl,_⟩⟩ d;refine mv d rfl λf d=>?_;refine ov d rfl (gF d rfl rfl) λf d=>?_;refine ov d rfl (gF d rfl rfl) λf d=>?_;refine mw d rfl λf d=>?_;refine mw d rfl λf d=>?_;refine oe ?_;refine wp_seq_k λN2 a2=>?_;refine sr ?_;refine mv d rfl λf d=>?_;refine ov d rfl (ZD d rfl rfl qW) λf d=>?_;have g1:decide ((0:Int)<0)=false:=rfl;have d:St _ _ _ ((22,Value.bool false) :: _) _ _ _ _:=d;refine mv d rfl λf d=>?_;refine vY d (pV d rfl rfl rfl zl) rfl zl (ZG d rfl) λf d=>?_;refine vY d (pV d rfl rfl rfl zl) rfl zl (ZD d rfl rfl qW) λf d=>?_;refine ov d rfl (qv (b:=false) d rfl rfl) λf d=>?_;refine oe ?_;refine gn d rfl (eg (by omega)) ?_;refine wp_skip ?_;refine Zp (a2 _ _ ?_);refine sr ?_;refine mv d rfl λf d=>?_;refine ov d rfl (oU d rfl (ZqD _)) λf d=>?_;have w3:IntKind.i64.wrap (k:Int)=k:=lx (gT.2 (by omega));rw[w3]at d;obtain⟨s,M,ae,p⟩:=Ge K7 d (l:=(k:Int)) (c:=(k:Int)) P (Int.le_refl _) a6 a7
 refine jN wn rfl zl (ae rfl rfl) p λf d=>?_;refine mw d rfl λf d=>?_;refine oe ?_;rw[U]at d;have d:=d.fr' (σ':=[(7,.slice (eF (some s)) k k),(0,.slice (some ⟨b,A,none⟩) 1 c)]) rfl;have ai:∀{σ:List (Nat×Value)} {aj:List dY} {L:Zb} {a:Act} {t:World},St 48 w v σ aj L a t→∀j u,o[j]?= some u→t.cell? ((⟨b,A,none⟩:Addr).add j)=some u:=λd j u r=>by
  have:=(d.view (At.mono d.vst.le a0)).cell r
  rwa [gG]
 have ad:o.all plain=true:=ee.flat _ H;obtain⟨B,X⟩:∃B:List Value,B=(Value.agg #[Value.bool false,Value.slice none 0 0,Value.bool false,Value.slice none 0 0,Value.bool false,Value.slice none 0 0,Value.bool false,Value.slice none 0 0,Value.slice none 0 0]:Value).cells.toList:=⟨_,rfl⟩;have ag:B.length=(gb).n:=by rw[X];rfl
 rw[←X]at d
 let wY:Nat→Act→World→Prop:=λj a t=>∃L,j≤k∧(0<k→0<j)∧St 48 w v [(8,.int .i64 (j:Int)),(7,.slice (eF (some s)) k k)] [.own (some s) 42 (gb).n k k ((List.replicate j o).flatten++(List.replicate (k-j) B).flatten)] L a t
 have Y:=λn=>DI F n;have Z:∀n:Nat,((List.replicate n o).flatten).all plain=true:=λn=>OZ ad n;have step:=λj m (S:j+m≤k)=>SG (k:=k) F ag S;refine sr ?_;refine mv d rfl λf d=>?_;refine mv d rfl λf d=>?_;have E:St 48 w v _ [.own (some s) 42 (gb).n k k ((List.replicate 0 o).flatten++(List.replicate (k-0) B).flatten)] v1 f M:=d;obtain⟨au,C,p⟩:=GQ (t:=27) (sT:=27) K7 E (i:=0) rfl (p:=0) (k:=min 1 k) (c:=(List.replicate (min 1 k) o).flatten) (Y _) (by omega) (Z _) (ad:=⟨b,A,none⟩) (sLen:=1) (sCap:=c) (dLen:=k) (dCap:=k) (λj u r=>by
  rcases Nat.lt_or_ge 0 k with a8 |a8
  ·rw[show min 1 k=1 by omega]at r;simp only[List.replicate_one,List.flatten_cons,List.flatten_nil,List.append_nil]at r;exact ai E j u r
  ·rw[show min 1 k=0 by omega]at r;simp at r) rfl
 have I:=step 0 (min 1 k) (by omega);simp only[List.set_cons_zero]at p;rw[I]at p;simp only[Nat.zero_add]at p;rw[Nat.zero_mul]at C;refine jN wn rfl zl (Gr E rfl rfl (C _)) p λf d=>?_;refine mw d rfl λf d=>?_;refine oe ?_;have d:=d.fr' (σ':=[(8,.int .i64 ((min 1 k:Nat):Int)),(7,.slice (eF (some s)) k k)]) rfl;refine wp_seq_k λN3 a3=>?_;refine wp_block ?_;refine fy (λm a t=>∃j,k-j<m∧wY j a t) (k+1) ⟨min 1 k,by omega,v1,by omega,by omega,d⟩ (λa t ⟨j,h,_⟩=>by omega) ?_;rintro m f av ⟨j,S,v3,R,Q,d⟩ N hN;refine wp_seq_k λN4 a4=>?_;refine sr ?_;refine mv d rfl λf d=>?_;refine mv d rfl λf d=>?_;refine ov d rfl (iw d rfl rfl Hw) λf d=>?_;refine ov d rfl (ZD d rfl rfl m5) λf d=>?_;refine oe ?_;by_cases ao:j<k
 ·refine iU d rfl (eo (by omega)) ?_;refine wp_skip ?_;refine Zp (a4 _ _ ?_);refine wp_block ?_;have d:=d.fr' (σ':=[(8,.int .i64 (j:Int)),(7,.slice (eF (some s)) k k)]) rfl;refine vb (fl:=#[true,true,true,true,true,true,true,false,false,false]) Yo (by kernel_rfl) d ?_;intro ap g l M d;refine rf g l 0 rfl (by kernel_rfl) rfl d (ZG d rfl) λf d=>?_;refine rf g l 1 rfl (by kernel_rfl) rfl d (ZG d rfl) λf d=>?_;refine rf g l 2 rfl (by kernel_rfl) rfl d (ZG d rfl) λf d=>?_;refine rf g l 3 rfl (by kernel_rfl) rfl d (PB d Hw rfl rfl (by omega) (by omega)) λf d=>?_;refine rf g l 4 rfl (by kernel_rfl) rfl d (ZG d rfl) λf d=>?_;refine rf g l 5 rfl (by kernel_rfl) rfl d (ZG d rfl) λf d=>?_;refine rf g l 6 rfl (by kernel_rfl) rfl d (Dz d Hw rfl rfl (by omega) (by omega)) λf d=>?_;rw[Nat.zero_add]at d;obtain⟨ar,C,p⟩:=GQ (t:=27) (sT:=27) K7 d (i:=0) rfl (p:=j) (k:=min j (k-j)) (c:=(List.replicate (min j (k-j)) o).flatten) (Y _) (by omega) (Z _) (ad:=⟨s,0,none⟩) (sLen:=j) (sCap:=k) (dLen:=k-j) (dCap:=k-j) (λi u r=>by
   have hi:=(List.getElem?_eq_some_iff.1 r).1;refine wk d (j:=0) rfl i u ?_;rw[LW (c:=o) (m:=min j (k-j)) (n:=j) (by omega),fj,List.getElem?_append_left hi];exact r) rfl
  have I:=step j (min j (k-j)) (by omega);simp only[List.set_cons_zero]at p;rw[I]at p;refine ls g l 7 (by kernel_rfl) ?_;refine Dr [3,6,1,2,4,5] [0] g rfl (by kernel_rfl) wn rfl zl (Gr d rfl rfl (C _)) p λf d=>?_;refine⟨(py d rfl rfl (ZG d rfl) jh),?_⟩;refine ls g l 8 (by kernel_rfl) ?_;have a5:chk .i64 ((j:Int)+((min j (k-j):Nat):Int))=some ((j+min j (k-j):Nat):Int):=by rw[Zk (by omega) (by omega)];rfl
  refine nv [0,7,3,6,1,2,4,5] [] g rfl (by kernel_rfl) rfl d (ZD d rfl rfl (vc a5)) λf d=>?_;refine⟨jh,?_⟩;refine ls g l 9 (by kernel_rfl) ?_;refine nv [0,1,2,3,4,5,6,7,8] [] g rfl (by kernel_rfl) rfl d (mg d rfl) λf d=>?_;refine⟨jh,?_⟩;refine AW g l (by kernel_rfl) ?_;refine mX ?_;have Q:=Q (by omega);exact Zp (hN _ _ ⟨j+min j (k-j),by omega,v3,by omega,λ_=>by omega,d.fr' rfl⟩)
 refine gn d rfl (eg (by omega)) ?_;refine wp_exit ?_;refine iu ?_;refine iu ?_;refine m8 ?_;refine Zp (a3 _ _ ?_);have R:j=k:=by omega
 subst R;rw[Nat.sub_self,List.replicate_zero,List.flatten_nil,List.append_nil]at d;refine sr ?_;refine mv d rfl λf d=>?_;refine mw d rfl λf d=>?_;refine oe ?_;refine wp_ret ?_;exact Bk d (i:=0) rfl (kl rfl (gO d rfl)) (ya (ee.mono _ d.vst.le H) _) (List.length_replicate (n:=j) (a:=y)).symm
noncomputable def D3:FuncId×f7:=(42,⟨[.int .i64],42,.leaf 8,λp=>xj p⟩)
theorem Fg:KO D3:=Rj (C:=sL (eD [xZ] [] [Bj] [])) .no Tryz.func42 [] (λ_=>by kernel_rfl) ⟨Bg,tr⟩ ⟨Hb,tr⟩
noncomputable def Se:FuncId×eu:=(72,⟨[.ptr (.pair (.slice (.slice (.leaf 8))) (.pair (.slice (.leaf 8)) (.pair (.slice (.leaf 8)) (.pair (.leaf 8) (.pair (.slice (.int .i64)) (.slice (.int .i64))))))),.int .i64],[.slice (.leaf 8)],λp=>D8 p.1 p.2⟩)
theorem ZhF:KQ Se:=Zi (Zm (C:=sL (eD [] [] [D3] [])) (.n (.n (.f (.n (.f (.l [0,1,5,13,14] [] [.s 15 (.dat (.int .i64)),.l (.sl 5) (.own 42 (.leaf 8))] 0 [5] [] [.l (.sl 5) (.own 42 (.leaf 8))] (.f (.n (.n (.f (.f (.n (.n (.j [0,1,5,13,14,15] [] [.l (.sl 5) (.own 42 (.leaf 8))] .no)))))))))))))) Tryz.func72 [] (λ_=>by kernel_rfl) tr ⟨Fg,tr⟩)
noncomputable def Nn:FuncId×eu:=(224,⟨[.pair (.pair (.leaf 2) (.pair (.leaf 2) (.pair (.leaf 2) (.leaf 2)))) (.leaf 0)],[.pair (.pair (.leaf 2) (.pair (.leaf 2) (.pair (.leaf 2) (.leaf 2)))) (.leaf 0)],λp=>JN p⟩)
theorem O4:KQ Nn:=Zi (Zm (C:=eD [Bb] [] [] []) (.n (.f (.n (.f (.unroll 5 .no))))) Tryz.func224 [] (λ_=>by kernel_rfl) ⟨D9,tr⟩)
noncomputable def Be:FuncId×eu:=(224,⟨[.leaf 8],[.leaf 8],λx=>qX x⟩)
theorem Iv:KQ Be:=by
 have a:=O4;unfold KQ Nn at a;unfold KQ Be
 dsimp only at a
 dsimp only
 refine mi a (λx=>cn x) (λv d x h=>h) ?_;intro x z b
 dsimp only at b ⊢
 simp only[qX]at b;obtain⟨c,rfl⟩:=l9 b;exact⟨_,R2,λv y h=>h⟩
noncomputable def U9:FuncId×eu:=(73,⟨[.ptr (.pair (.slice (.slice (.leaf 8))) (.pair (.slice (.leaf 8)) (.pair (.slice (.leaf 8)) (.pair (.leaf 8) (.pair (.slice (.int .i64)) (.slice (.int .i64))))))),.int .i64,.int .i64],[.slice (.leaf 8)],λp=>FM p.1 p.2.1 p.2.2⟩)
theorem ZuC:KQ U9:=Zi (Zm (C:=sL (eD [Be] [] [D3] [((42,"Neg"),224),((77,"Neg"),248)])) (.n (.n (.f (.n (.f (.l [0,1,2,7,15,16] [] [.s 17 (.dat (.int .i64)),.l (.sl 7) (.own 42 (.leaf 8))] 0 [7] [] [.l (.sl 7) (.own 42 (.leaf 8))] (.f (.n (.n (.f (.f (.n (.two (.j [0,1,2,7,8,9,15,16,17] [] [.s 31 (.dat .bool)] .no) (.j [0,1,2,7,15,16,17] [] [.l (.sl 7) (.own 42 (.leaf 8))] .no)))))))))))))) Tryz.func73 [] (λ_=> by kernel_rfl) ⟨Iv,tr⟩ ⟨Fg,tr⟩ ⟨oN,pg,tr⟩)
theorem PP:eZ Tryz.prog 27 42 (gb).n 152 (Value.agg #[Value.bool false,Value.slice none 0 0,Value.bool false,Value.slice none 0 0,Value.bool false,Value.slice none 0 0,Value.bool false,Value.slice none 0 0,Value.slice none 0 0]):=⟨Tryz.underlying27,by kernel_rfl,rfl,by decide⟩
noncomputable def Ht:FuncId×f7:=(124,⟨[.slice (.leaf 8)],42,.leaf 8,λp=>j9 152 p⟩)
theorem OG:o8 Tryz.prog Ht.1 Ht.2:=λw v K x z A r i=>by
 obtain⟨l,rfl,f⟩:=r
 have i:j9 152 (show List Su from x)=some z:=i
 obtain⟨s,rfl⟩:=RQ i
 obtain⟨q,n,c,rfl⟩:=vV (show(Zy gb).rel v l z from f)
 refine⟨λ_ _=>by kernel_rfl,?_⟩
 have h:n=(show List Su from z).length:=by obtain⟨_,_,e,_⟩:=f;cases e;rfl
 refine Ch (K:=8) (args:=[.slice q n c]) A Tryz.func124 rfl rfl zl λd a=>?_
 refine sr ?_
 refine mw a rfl λd a=>?_
 refine oe ?_
 refine wp_seq_k λC o=>?_
 refine sr ?_
 refine mv a rfl λd a=>?_
 refine ov a rfl (QT a Tryz.underlying27 rfl rfl) λd a=>?_
 refine oe ?_
 cases q with
 |none=>
  refine iU a rfl rfl ?_
  have k:(show List Su from z)=[]:=by
   obtain⟨J,F,e,_,_,g⟩:=f
   cases e
   rcases g with g |⟨_,_,_,_,_,m,_⟩
   ·exact g
   ·cases m
  have I:n=0:=by rw[h,k];rfl
  refine sr ?_;refine mw a rfl λd a=>?_;refine oe ?_;refine wp_ret ?_;refine Bx ?_;have j:=a.nilLoc 42 (gb).n;have:=Bk (P:=Tryz.prog) (A:=gb) j (i:=0) (ob:=none) (n:=0) (cap:=0) (cs:=[]) rfl (kl (fn:=Tryz.f124) (r:=.tmp 2) rfl (gO (t:=2) (y:=.slice (eF none) 0 0) j rfl)) (l:=([]:List Su)) qC rfl;rw[k];exact this
 |some D=>
  refine gn a rfl rfl ?_;refine wp_skip ?_;refine Zp (o _ _ ?_);refine sr ?_;obtain⟨b,B,y,a⟩:=R7 PP a;refine jN wn rfl zl y a λd a=>?_;refine mv a rfl λd a=>?_;obtain⟨E,G,H,B,t,p,u⟩:=vZ (ty:=27) (A:=gb) PP a (i:=0) rfl (ee.mono (Zy gb) a.vst.le f) (n':=n) (by omega) (by rw[h];exact s) (by decide);refine jN wn rfl zl (pE a rfl rfl t) p λd a=>?_;refine mw a rfl λd a=>?_;refine oe ?_;refine wp_ret ?_;exact Bk a (i:=0) rfl (kl rfl (gO a rfl)) u h
noncomputable def P':FuncId×iO:=(123,⟨[.slice (.slice (.leaf 8))],27,42,.leaf 8,λp=>Ip p⟩)
theorem Wv:KW P':=UT (C:=sL (eD [] [8] [Ht] [])) (.n (.n (.f (.n (.f (.l [3,9,10] [] [.s 11 (.dat (.int .i64)),.l (.sl 3) (.mat 27 42 (.leaf 8))] 0 [3] [] [.l (.sl 3) (.mat 27 42 (.leaf 8))] .no)))))) Tryz.func123 [] (λ_=>by kernel_rfl) tr ⟨OG,tr⟩
noncomputable def LR:FuncId×eu:=(219,⟨[.pair (.pair (.leaf 2) (.pair (.leaf 2) (.pair (.leaf 2) (.leaf 2)))) (.leaf 0),.pair (.pair (.leaf 2) (.pair (.leaf 2) (.pair (.leaf 2) (.leaf 2)))) (.leaf 0)],[.pair (.pair (.leaf 2) (.pair (.leaf 2) (.pair (.leaf 2) (.leaf 2)))) (.leaf 0)],λp=>HV p.1 p.2⟩)
theorem Q2:KQ LR:=Zi (Zm (C:=eD [qQ,oX,w8,Ew,AL] [] [] []) (.n (.n (.n (.f (.n (.f (.unroll 5 .no))))))) Tryz.func219 [] (λ_=>by kernel_rfl) ⟨vL,qE,AK,H5,Ef,tr⟩)
noncomputable def B3:FuncId×eu:=(219,⟨[.leaf 8,.leaf 8],[.leaf 8],λx=>o7 x.1 x.2⟩)
theorem HI:KQ B3:=by
 have a:=Q2;unfold KQ LR at a;unfold KQ B3
 dsimp only at a
 dsimp only
 refine mi a (λx=>(cn x.1,cn x.2)) (λv e x h=>h) ?_;intro x z b
 dsimp only at b ⊢
 simp only[o7]at b;obtain⟨⟨c,d⟩,rfl⟩:=l9 b;exact⟨_,(UM c d (by decide)).1,λv y h=>h⟩
noncomputable def HE:FuncId×eu:=(237,⟨[.leaf 2,.int .u64],[.leaf 2],λp=>j8 p.1 p.2⟩)
theorem K9:KQ HE:=Zi (Zm (C:=eD [x6,w8] [] [] []) .no Tryz.func237 [] (λ_=>by kernel_rfl) ⟨CA,AK,tr⟩)
noncomputable def Oi:FuncId×eu:=(234,⟨[.leaf 2,.leaf 2],[.int .i64],λp=>A8 p.1 p.2⟩)
theorem Yc:KQ Oi:=Zi (Zm (C:=eD [IP,AL,Bb,CI,HE] [700010] [] []) .no Tryz.func234 [(233,Tryz.f233,.r [] [] [.s 1000 (.dat (.int .i64))] (.n (.f (.f (.f (.j [0,1,2] [] [.s 7 (.dat .bool)] .no)))))),(241,Tryz.f241,.no)] (λ_=>by kernel_rfl) ⟨Sr,Ef,D9,HK,K9,tr⟩ tr tr ⟨⟨Tryz.func233,λ_ _=>by kernel_rfl⟩,⟨Tryz.func241,λ_ _=>by kernel_rfl⟩,tr⟩)
noncomputable def MX:FuncId×eu:=(227,⟨[.pair (.pair (.leaf 2) (.pair (.leaf 2) (.pair (.leaf 2) (.leaf 2)))) (.leaf 0)],[.int .i64],λp=>Hr p⟩)
theorem Rq:KQ MX:=Zi (Zm (C:=eD [AL,Bb,Oi,CI,HE] [700026] [] []) .no Tryz.func227 [(233,Tryz.f233,.r [] [] [.s 1000 (.dat (.int .i64))] (.n (.f (.f (.f (.j [0,1,2] [] [.s 7 (.dat .bool)] .no)))))),(235,Tryz.f235,.no)] (λ_=>by kernel_rfl) ⟨Ef,D9,Yc,HK,K9,tr⟩ tr tr ⟨⟨Tryz.func233,λ_ _=>by kernel_rfl⟩,⟨Tryz.func235,λ_ _=>by kernel_rfl⟩,tr⟩)
noncomputable def H9:FuncId×eu:=(228,⟨[.pair (.pair (.leaf 2) (.pair (.leaf 2) (.pair (.leaf 2) (.leaf 2)))) (.leaf 0),.pair (.pair (.leaf 2) (.pair (.leaf 2) (.pair (.leaf 2) (.leaf 2)))) (.leaf 0)],[.pair (.pair (.leaf 2) (.pair (.leaf 2) (.pair (.leaf 2) (.leaf 2)))) (.leaf 0)],λp=>Eu p.1 p.2⟩)
theorem MC:KQ H9:=Zi (Zm (C:=eD [LR,Nn] [] [] []) .no Tryz.func228 [] (λ_=>by kernel_rfl) ⟨Q2,O4,tr⟩)
noncomputable def Uv:FuncId×eu:=(220,⟨[.pair (.pair (.leaf 2) (.pair (.leaf 2) (.pair (.leaf 2) (.leaf 2)))) (.leaf 0),.pair (.pair (.leaf 2) (.pair (.leaf 2) (.pair (.leaf 2) (.leaf 2)))) (.leaf 0)],[.int .i64],λp=>K6 p.1 p.2⟩)
theorem uo:KQ Uv:=Zi (Zm (C:=eD [MX,H9] [] [] []) .no Tryz.func220 [] (λ_=>by kernel_rfl) ⟨Rq,MC,tr⟩)
noncomputable def DH:FuncId×eu:=(220,⟨[.leaf 8,.leaf 8],[.int .i64],λx=>oF x.1 x.2⟩)
theorem KN:KQ DH:=by
 have a:=uo;unfold KQ Uv at a;unfold KQ DH
 dsimp only at a
 dsimp only
 refine mi a (λx=>(cn x.1,cn x.2)) (λv e x h=>h) ?_;intro x z b
 dsimp only at b ⊢
 simp only[oF]at b;obtain⟨⟨c,d⟩,rfl⟩:=l9 b;exact⟨_,YN c d (by decide),λv y h=>h⟩
noncomputable def Mg:FuncId×eu:=(232,⟨[.pair (.leaf 2) (.pair (.leaf 2) (.pair (.leaf 2) (.leaf 2))),.pair (.leaf 2) (.pair (.leaf 2) (.pair (.leaf 2) (.leaf 2)))],[.pair (.leaf 2) (.pair (.leaf 2) (.pair (.leaf 2) (.leaf 2)))],λp=>oH p.1 p.2⟩)
theorem Re:KQ Mg:=Zi (Zm (C:=eD [AL,CI,HE] [] [] []) .no Tryz.func232 [(240,Tryz.f240,.no)] (λ_=>by kernel_rfl) ⟨Ef,HK,K9,tr⟩ tr tr ⟨⟨Tryz.func240,λ_ _=>by kernel_rfl⟩,tr⟩)
noncomputable def Qm:FuncId×eu:=(222,⟨[.pair (.pair (.leaf 2) (.pair (.leaf 2) (.pair (.leaf 2) (.leaf 2)))) (.leaf 0),.pair (.pair (.leaf 2) (.pair (.leaf 2) (.pair (.leaf 2) (.leaf 2)))) (.leaf 0)],[.pair (.pair (.leaf 2) (.pair (.leaf 2) (.pair (.leaf 2) (.leaf 2)))) (.leaf 0)],λp=>K3 p.1 p.2⟩)
theorem ur:KQ Qm:=Zi (Zm (C:=eD [qQ,oX,Ew,Mg] [] [] []) .no Tryz.func222 [] (λ_=>by kernel_rfl) ⟨vL,qE,H5,Re,tr⟩)
noncomputable def B0:FuncId×eu:=(222,⟨[.leaf 8,.leaf 8],[.leaf 8],λx=>jC x.1 x.2⟩)
theorem FW:KQ B0:=by
 have a:=ur;unfold KQ Qm at a;unfold KQ B0
 dsimp only at a
 dsimp only
 refine mi a (λx=>(cn x.1,cn x.2)) (λv e x h=>h) ?_;intro x z b
 dsimp only at b ⊢
 simp only[jC]at b;obtain⟨⟨c,d⟩,rfl⟩:=l9 b;exact⟨_,(ZrB c d (by decide)).1,λv y h=>h⟩
noncomputable def xE:FuncId×eu:=(227,⟨[.leaf 8],[.int .i64],λx=>nu x⟩)
theorem Ds:KQ xE:=by
 have a:=Rq;unfold KQ MX at a;unfold KQ xE
 dsimp only at a
 dsimp only
 refine mi a (λx=>cn x) (λv d x h=>h) ?_;intro x z b
 dsimp only at b ⊢
 simp only[nu]at b;obtain⟨c,rfl⟩:=l9 b;exact⟨_,QY c (by decide),λv y h=>h⟩
noncomputable def HS:FuncId×eu:=(228,⟨[.leaf 8,.leaf 8],[.leaf 8],λx=>vo x.1 x.2⟩)
theorem TH:KQ HS:=by
 have a:=MC;unfold KQ H9 at a;unfold KQ HS
 dsimp only at a
 dsimp only
 refine mi a (λx=>(cn x.1,cn x.2)) (λv e x h=>h) ?_;intro x z b
 dsimp only at b ⊢
 simp only[vo]at b;obtain⟨⟨c,d⟩,rfl⟩:=l9 b;exact⟨_,(Ke c d (by decide)).1,λv y h=>h⟩
noncomputable def FF:FuncId×eu:=(229,⟨[.pair (.pair (.leaf 2) (.pair (.leaf 2) (.pair (.leaf 2) (.leaf 2)))) (.leaf 0)],[.bool],λp=>Cu p⟩)
theorem IR:KQ FF:=Zi (Zm (C:=eD [] [] [] []) .no Tryz.func229 [] (λ_=>by kernel_rfl))
noncomputable def CF:FuncId×eu:=(229,⟨[.leaf 8],[.bool],λx=>vW x⟩)
theorem IY:KQ CF:=by
 have a:=IR;unfold KQ FF at a;unfold KQ CF
 dsimp only at a
 dsimp only
 refine mi a (λx=>cn x) (λv d x h=>h) ?_;intro x z b
 dsimp only at b ⊢
 simp only[vW]at b;obtain⟨c,rfl⟩:=l9 b;exact⟨_,Ij c (by decide),λv y h=>h⟩
noncomputable def PA:FuncId×eu:=(221,⟨[.pair (.pair (.leaf 2) (.pair (.leaf 2) (.pair (.leaf 2) (.leaf 2)))) (.leaf 0),.pair (.pair (.leaf 2) (.pair (.leaf 2) (.pair (.leaf 2) (.leaf 2)))) (.leaf 0)],[.pair (.pair (.leaf 2) (.pair (.leaf 2) (.pair (.leaf 2) (.leaf 2)))) (.leaf 0),.int .i64],λp=>CU p.1 p.2⟩)
theorem uq:KQ PA:=Zi (Zm (C:=eD [qQ,oX,w8,Ew,FF,Bb,Mg] [] [] []) (.n (.n (.n (.n (.n (.n (.n (.f (.n (.f (.unroll 5 (.f (.n (.n (.f (.f (.n (.n (.n (.j [2,3,4,9,10,50] [] [.l (.sl 9) (.box 40 (.dat (.pair (.leaf 2) (.pair (.leaf 2) (.pair (.leaf 2) (.leaf 2))))))] .no)))))))))))))))))))) Tryz.func221 [] (λ_=>by kernel_rfl) ⟨vL,qE,AK,H5,IR,D9,Re,tr⟩)
noncomputable def Ft:FuncId×eu:=(221,⟨[.leaf 8,.leaf 8],[.leaf 8,.int .i64],λx=>Bv x.1 x.2⟩)
theorem U0:KQ Ft:=by
 have a:=uq;unfold KQ PA at a;unfold KQ Ft
 dsimp only at a
 dsimp only
 refine mi a (λx=>(cn x.1,cn x.2)) (λv e x h=>h) ?_;intro x z b
 dsimp only at b ⊢
 simp only[Bv]at b;obtain⟨⟨c,d⟩,rfl⟩:=l9 b;exact⟨_,Xn c d (by decide),λv y h=>h⟩
noncomputable def Jb:FuncId×fk:=(125,⟨147,(.agg (.cons (.mat 27 42 (.leaf 8)) (.cons (.own 42 (.leaf 8)) (.cons (.own 42 (.leaf 8)) (.cons (.dat (.leaf 8)) (.cons (.own 3 (.int .i64)) (.one (.own 3 (.int .i64))))))))),[.int .i64,.int .i64],[],λz x=>wg z x.1 x.2⟩)
theorem PH:KB Jb:=mf (C:=sL (eD [xZ,B3,Ft,B0,Be,HS,CF] [] [] [((42,"Add"),219),((42,"Div"),221),((42,"Mul"),222),((42,"Neg"),224),((42,"Sub"),228),((42,"Zero"),229),((77,"Add"),243),((77,"Div"),245),((77,"Mul"),246),((77,"Neg"),248),((77,"Sub"),252),((77,"Zero"),253)])) (.n (.n (.two (.n (.f (.l [0,1,2,7,37] [] [.s 38 (.dat (.int .i64)),.l (.sl 20) (.mat 27 42 (.leaf 8))] 0 [0,1,2,7] [] [.l (.sl 20) (.mat 27 42 (.leaf 8))] .no))) (.n (.n (.f (.n (.f (.l [0,1,2,94] [] [.s 95 (.dat (.int .i64)),.l (.sl 67) (.mat 27 42 (.leaf 8)),.l (.sl 77) (.own 42 (.leaf 8))] 2 [0,1,2] [] [.l (.sl 67) (.mat 27 42 (.leaf 8)),.l (.sl 77) (.own 42 (.leaf 8))] (.f (.n (.n (.f (.j [0,1,2,94,95] [] [.l (.fld (.sl 0) 0) (.mat 27 42 (.leaf 8)),.l (.fld (.sl 0) 1) (.own 42 (.leaf 8))] (.f (.n (.f (.f (.j [0,1,2,10,94,95] [] [.s 114 (.dat .bool)] .no))))))))))))))))))) Tryz.func125 [(173,Tryz.f173,.sel 1 (.n (.f (.n (.f (.l [0,1,2,3,8,15] [] [.s 16 (.dat (.int .i64)),.l (.fld (.sl 0) 0) (.agg (.mat 27 42 (.leaf 8)))] 0 [0,1,2,3,8] [] [.l (.fld (.sl 0) 0) (.agg (.mat 27 42 (.leaf 8)))] .no))))) (.n (.f (.n (.f (.l [0,1,2,3,8,15] [] [.s 16 (.dat (.int .i64)),.l (.sl 1) (.own 42 (.leaf 8))] 0 [0,1,2,3,8] [] [.l (.sl 1) (.own 42 (.leaf 8))] .no))))))] (λ_ _=> by kernel_rfl) ⟨Bg,HI,U0,FW,Iv,TH,IY,tr⟩ tr ⟨vC,DB,p9,oN,Ct,xF,v8,CV,pW,pg,Cv,xA,tr⟩ ⟨⟨Tryz.func173,λ_ _=> by kernel_rfl⟩,tr⟩
noncomputable def SF:FuncId×fk:=(130,⟨147,(.agg (.cons (.mat 27 42 (.leaf 8)) (.cons (.own 42 (.leaf 8)) (.cons (.own 42 (.leaf 8)) (.cons (.dat (.leaf 8)) (.cons (.own 3 (.int .i64)) (.one (.own 3 (.int .i64))))))))),[],[.int .i64],λz x=>B6 z⟩)
theorem Y6:KB SF:=mf (C:=sL (eD [xE] [] [] [((42,"Sign"),227),((77,"Sign"),251)])) (.n (.n (.f (.n (.f (.l [0,9,10] [] [.s 3 (.dat (.int .i64)),.s 11 (.dat (.int .i64))] 0 [] [] [.s 3 (.dat (.int .i64))] (.f (.n (.n (.f (.f (.n (.two (.j [0,3,4,9,10,11] [] [.s 40 (.dat .bool)] .no) (.j [0,9,10,11] [] [.s 3 (.dat (.int .i64))] .no)))))))))))))) Tryz.func130 [] (λ_ _=> by kernel_rfl) ⟨Ds,tr⟩ tr ⟨oJ,pm,tr⟩
noncomputable def Uq:FuncId×fk:=(131,⟨147,(.agg (.cons (.mat 27 42 (.leaf 8)) (.cons (.own 42 (.leaf 8)) (.cons (.own 42 (.leaf 8)) (.cons (.dat (.leaf 8)) (.cons (.own 3 (.int .i64)) (.one (.own 3 (.int .i64))))))))),[.int .i64,.int .i64],[.int .i64],λz x=>BY z x.1 x.2⟩)
theorem Xj:KB Uq:=mf (C:=sL (eD [DH,Ft,xE] [] [] [((42,"Cmp"),220),((42,"Div"),221),((42,"Sign"),227),((77,"Cmp"),244),((77,"Div"),245),((77,"Sign"),251)])) (.n (.n (.n (.f (.n (.f (.l [0,1,2,8,17] [] [.s 7 (.dat (.int .i64)),.s 18 (.dat (.int .i64)),.l (.sl 8) (.box 42 (.dat (.leaf 8)))] 0 [] [] [.s 7 (.dat (.int .i64))] (.f (.n (.n (.f (.j [0,1,2,8,17,18] [] [.s 7 (.dat (.int .i64)),.l (.sl 8) (.box 42 (.dat (.leaf 8)))] (.f (.n (.n (.n (.n (.two (.n (.j [0,1,2,7,8,9,10,17,18] [] [.s 12 (.dat (.int .i64))] .no)) (.two (.j [0,1,2,7,8,9,10,17,18] [] [.s 110 (.dat .bool)] .no) (.j [0,1,2,8,17,18] [] [.s 7 (.dat (.int .i64)),.l (.sl 8) (.box 42 (.dat (.leaf 8)))] .no)))))))))))))))))))) Tryz.func131 [] (λ_ _=> by kernel_rfl) ⟨KN,U0,Ds,tr⟩ tr ⟨BT,DB,oJ,B',CV,pm,tr⟩
noncomputable def I0:FuncId×fk:=(71,⟨147,(.agg (.cons (.mat 27 42 (.leaf 8)) (.cons (.own 42 (.leaf 8)) (.cons (.own 42 (.leaf 8)) (.cons (.dat (.leaf 8)) (.cons (.own 3 (.int .i64)) (.one (.own 3 (.int .i64))))))))),[.int .i64],[.int .i64],λz x=>El z x⟩)
theorem Tt:KB I0:=mf (C:=sL (Cl [] [] [] [] [] [Jb,SF,Uq] [])) (.n (.f (.cut ⟨⟨[0,1],[.fld (.sl 0) 0,.fld (.sl 0) 1,.fld (.sl 0) 12,.fld (.sl 0) 13,.fld (.sl 0) 2],[.l (.sl 0) (.box 147 (.agg (.cons (.mat 27 42 (.leaf 8)) (.cons (.own 42 (.leaf 8)) (.cons (.own 42 (.leaf 8)) (.cons (.dat (.leaf 8)) (.cons (.own 3 (.int .i64)) (.one (.own 3 (.int .i64))))))))))]⟩,[(.ret,⟨[],[.fld (.sl 0) 0,.fld (.sl 0) 1,.fld (.sl 0) 12,.fld (.sl 0) 13,.fld (.sl 0) 2],[.s 1000 (.dat (.int .i64)),.l (.sl 0) (.box 147 (.agg (.cons (.mat 27 42 (.leaf 8)) (.cons (.own 42 (.leaf 8)) (.cons (.own 42 (.leaf 8)) (.cons (.dat (.leaf 8)) (.cons (.own 3 (.int .i64)) (.one (.own 3 (.int .i64))))))))))]⟩)]⟩ .no))) Tryz.func71 [] (λ_ _=>by kernel_rfl) tr tr tr tr tr ⟨PH,Y6,Xj,tr⟩
noncomputable def Qy:FuncId×fk:=(73,⟨147,(.agg (.cons (.mat 27 42 (.leaf 8)) (.cons (.own 42 (.leaf 8)) (.cons (.own 42 (.leaf 8)) (.cons (.dat (.leaf 8)) (.cons (.own 3 (.int .i64)) (.one (.own 3 (.int .i64))))))))),[.int .i64,.int .i64],[.slice (.leaf 8)],λz x=>Hg z x.1 x.2⟩)
theorem YS:KB Qy:=mf (C:=sL (eD [xZ,Be] [] [Bj] [((42,"Neg"),224),((77,"Neg"),248)])) (.n (.n (.f (.n (.f (.l [0,1,2,7,15,16] [] [.s 17 (.dat (.int .i64)),.l (.sl 7) (.own 42 (.leaf 8))] 0 [7] [] [.l (.sl 7) (.own 42 (.leaf 8))] (.f (.n (.n (.f (.f (.n (.two (.j [0,1,2,7,8,9,15,16,17] [] [.s 31 (.dat .bool)] .no) (.j [0,1,2,7,15,16,17] [] [.l (.sl 7) (.own 42 (.leaf 8))] .no)))))))))))))) Tryz.func73 [(42,Tryz.f42,.no)] (λ_ _=> by kernel_rfl) ⟨Bg,Iv,tr⟩ ⟨Hb,tr⟩ ⟨oN,pg,tr⟩ ⟨⟨Tryz.func42,λ_ _=> by kernel_rfl⟩,tr⟩
theorem Ry:eZ Tryz.prog 27 42 (gb).n 152 (Value.agg #[Value.bool false,Value.slice none 0 0,Value.bool false,Value.slice none 0 0,Value.bool false,Value.slice none 0 0,Value.bool false,Value.slice none 0 0,Value.slice none 0 0]):=⟨Tryz.underlying27,by kernel_rfl,rfl,by decide⟩
theorem xp:jf Tryz.prog 27 42 (gb).n:=⟨λ_=>by kernel_rfl,λ_=>by kernel_rfl⟩
theorem ZwA:Tryz.prog.follows .mixedOrders=true:=by kernel_rfl
noncomputable def Ju:FuncId×il:=(129,⟨42,.leaf 8,λl i j=>kn l i j⟩)
theorem ZzF:xv Tryz.prog Ju.1 Ju.2:=λw v ob n f g l O P z L G J k x Y Z A=>by
 have A:kn (show List Su from l) O P=some z:=A
 obtain⟨i,rfl,rfl,t,rfl⟩:=Lj A
 have k:(gb).rels v g (show List Su from l):=k
 have t:i<n:=by rw[x];exact t
 have s:g.length=n*(gb).n:=by rw[x];exact kK k
 refine⟨λ_ _=>by kernel_rfl,?_⟩
 refine Jt (K:=33) (args:=[.slice (eF ob) n f,.int .i64 (i:Int),.int .i64 ((i+1:Nat):Int)]) L G J Tryz.func129 rfl rfl zl λc a=>?_
 obtain⟨b,rfl⟩:=mr a (j:=0) rfl (by omega)
 obtain⟨_,U,X,I,E,W,a0⟩:=(a.loc _ (mG (i:=0) rfl)).1
 unfold maxLen at E
 refine sr ?_
 refine mw a rfl λc a=>?_
 refine oe ?_
 refine sr ?_
 refine mv a rfl λc a=>?_
 refine mv a rfl λc a=>?_
 refine mv a rfl λc a=>?_
 refine mv a rfl λc a=>?_
 refine ov a rfl (iw a rfl rfl xp) λc a=>?_
 have r:=@Lx _ _ _ _ _ _ _ _ _ (some 13) 27 "" #[] none a 27 42 (gb).n b n f i (i+1) n (.tmp 8) (.tmp 9) (.tmp 10) (.tmp 12) .i64 .i64 .i64 xp rfl rfl rfl rfl (by omega) (by omega) I
 obtain⟨y3,r⟩:=r
 refine ov a rfl r λc a=>?_
 refine oe ?_
 refine wp_seq_k λR B=>?_
 refine sr ?_
 refine mv a rfl λc a=>?_
 refine mv a rfl λc a=>?_
 refine ov a rfl (ZD a rfl rfl xw) λc a=>?_
 refine oe ?_
 refine gn a rfl (by simp only[beq_eq_false_iff_ne,ne_eq];omega) ?_
 refine wp_skip ?_
 refine Zp (B _ _ ?_)
 refine sr ?_
 refine mv a rfl λc a=>?_
 refine ov a rfl (iw a rfl rfl xp) λc a=>?_
 refine mw a rfl λc a=>?_
 refine oe ?_
 refine wp_seq_k λS C=>?_
 refine vb (fl:=#[true,true,true,true,true,true,false,false]) ZwA (by kernel_rfl) a ?_
 intro a1 d e Q a
 refine rf d e 0 rfl (by kernel_rfl) rfl a (ZG a rfl) λc a=>?_
 refine rf d e 1 rfl (by kernel_rfl) rfl a (ZG a rfl) λc a=>?_
 refine rf d e 2 rfl (by kernel_rfl) rfl a (Dz a xp rfl rfl (by omega) (by omega)) λc a=>?_
 refine rf d e 3 rfl (by kernel_rfl) rfl a (ZG a rfl) λc a=>?_
 refine rf d e 4 rfl (by kernel_rfl) rfl a (ZG a rfl) λc a=>?_
 obtain⟨o,D,K⟩:∃o:Addr,(if f=i+1 then eF (some b) else(eF (some b)).map (·.add ((i+1)*(gb).n)))=some o∧∀j u,(g.drop ((i+1)*(gb).n))[j]?= some u→Q.cell? (o.add j)=some u:=by
  by_cases h:f=i+1
  ·refine⟨⟨b,0,none⟩,by rw[iP h];rfl,λj u m=>?_⟩;have:g.drop ((i+1)*(gb).n)=[]:=List.drop_eq_nil_of_le (by rw[s];exact mR _ (by omega));rw[this]at m;simp at m
  ·refine⟨(⟨b,0,none⟩:Addr).add ((i+1)*(gb).n),by rw[iN h];rfl,λj u m=>?_⟩;have:=wk a (j:=0) rfl ((i+1)*(gb).n+j) u (by rw[List.getElem?_drop]at m;exact m);rw[show((⟨b,0,none⟩:Addr).add ((i+1)*(gb).n)).add j=(⟨b,0,none⟩:Addr).add ((i+1)*(gb).n+j) by simp only[gG,Nat.add_assoc]];exact this
 refine rf d e 5 rfl (by kernel_rfl) rfl a (MS a xp rfl rfl (by omega)) λc a=>?_;rw[D]at a;have F:(g.drop ((i+1)*(gb).n)).length=(n-(i+1))*(gb).n:=by rw[List.length_drop,s,Nat.sub_mul]
 obtain⟨a2,q,p⟩:=KV (t:=27) (ty:=27) Ry a (i:=0) rfl (q:=i) (m:=n-(i+1)) (c:=f-(i+1)) (ad:=o) (news:=g.drop ((i+1)*(gb).n)) F K (by rw[List.all_eq_true];intro y M;exact List.all_eq_true.1 (xD k) y (List.mem_of_mem_drop M)) (by omega);rw[show i+(n-(i+1))=n-1 by omega]at q;refine ls d e 6 (by kernel_rfl) ?_;refine Dr [2,5,0,1,3,4] [] d rfl (by kernel_rfl) wn rfl zl (MM a rfl rfl q) p λc a=>?_;refine⟨jh,?_⟩;refine ls d e 7 (by kernel_rfl) ?_;refine nv [0,1,2,3,4,5,6] [] d rfl (by kernel_rfl) rfl a (mg a rfl) λc a=>?_;refine⟨jh,?_⟩;refine AW d e (by kernel_rfl) ?_;refine Zp (C _ _ ?_);refine sr ?_;refine mv a rfl λc a=>?_;refine mv a rfl λc a=>?_;refine ov a rfl (iw a rfl rfl xp) λc a=>?_;refine mv a rfl λc a=>?_;refine ov a rfl (KJ a xp rfl rfl rfl (by omega) (by omega) (by omega)) λc a=>?_;obtain⟨a3,zc,N,q,p⟩:=Lb (t:=27) (ty:=27) Ry a (i:=0) rfl (p:=n-1) (c:=f-(n-1)) (by omega) (List.all_eq_true.1 (by kernel_rfl));have H:n-(n-1)=1:=by omega
 rw[H]at a p;refine Mc wn rfl (Mq a rfl (q _)) ?_;refine oe ?_;have a:=p.narrow (i:=0) rfl (m:=n-1) (by omega);refine sr ?_;refine mv a rfl λc a=>?_;refine mw a rfl λc a=>?_;refine oe ?_;refine wp_ret ?_;refine No a (i:=0) rfl (kl rfl (gO a rfl)) ?_ (show n-1=(List.take i l++List.drop (i+1) l).length by rw[lA,List.length_take,List.length_drop,←x];omega);rw[Mf s t N];exact ku (wj i (ZQ a.vst.le k)) (qu (i+1) (ZQ a.vst.le k))
noncomputable def Pp:FuncId×fk:=(70,⟨147,(.agg (.cons (.mat 27 42 (.leaf 8)) (.cons (.own 42 (.leaf 8)) (.cons (.own 42 (.leaf 8)) (.cons (.dat (.leaf 8)) (.cons (.own 3 (.int .i64)) (.one (.own 3 (.int .i64))))))))),[.pair (.slice (.slice (.leaf 8))) (.pair (.slice (.leaf 8)) (.slice (.leaf 8)))],[.slice (.leaf 8),.bool],λz x=>Ga z x⟩)
theorem ZhC:KB Pp:=mf (C:=sL (Cl [xZ,B3,DH,B0,xE,HS,CF] [100182] [Bj] [((42,"Add"),219),((42,"Cmp"),220),((42,"Mul"),222),((42,"Sign"),227),((42,"Sub"),228),((42,"Zero"),229),((77,"Add"),243),((77,"Cmp"),244),((77,"Mul"),246),((77,"Sign"),251),((77,"Sub"),252),((77,"Zero"),253)] [] [I0,Qy,Jb] [HL,Ju])) (.n (.n (.n (.two (.n (.f (.l [0,3,6,7,8,34,35] [] [.s 9 (.dat (.int .i64)),.s 36 (.dat (.int .i64))] 0 [0,3,6,7,8] [] [.s 9 (.dat (.int .i64))] (.f (.n (.n (.f (.f (.n (.two (.j [0,3,6,7,8,9,10,34,35,36] [] [.s 61 (.dat .bool)] .no) (.j [0,3,6,7,8,34,35,36] [] [.s 9 (.dat (.int .i64))] .no))))))))))) (.n (.two (.n (.f (.l [0,3,6,7,8,9,70] [] [.s 71 (.dat (.int .i64)),.l (.sl 69) (.mat 27 42 (.leaf 8))] 2 [0,3,6,7,8,9] [] [.l (.sl 69) (.mat 27 42 (.leaf 8))] .no))) (.n (.n (.n (.n (.n (.two (.n (.n (.j [0,3,8] [.fld (.sl 0) 0,.fld (.sl 0) 1,.fld (.sl 0) 12,.fld (.sl 0) 13,.fld (.sl 0) 2] [.l (.sl 0) (.box 147 (.agg (.cons (.mat 27 42 (.leaf 8)) (.cons (.own 42 (.leaf 8)) (.cons (.own 42 (.leaf 8)) (.cons (.dat (.leaf 8)) (.cons (.own 3 (.int .i64)) (.one (.own 3 (.int .i64))))))))))] .no))) (.n (.n (.two (.n (.f (.l [0,3,14,167] [] [.s 168 (.dat (.int .i64)),.l (.sl 166) (.mat 27 42 (.leaf 8))] 4 [0,3] [] [.l (.sl 166) (.mat 27 42 (.leaf 8))] .no))) (.n (.f (.n (.f (.l [0,203,204] [.fld (.sl 0) 0,.fld (.sl 0) 1,.fld (.sl 0) 12,.fld (.sl 0) 13,.fld (.sl 0) 2] [.s 205 (.dat (.int .i64)),.l (.sl 0) (.box 147 (.agg (.cons (.mat 27 42 (.leaf 8)) (.cons (.own 42 (.leaf 8)) (.cons (.own 42 (.leaf 8)) (.cons (.dat (.leaf 8)) (.cons (.own 3 (.int .i64)) (.one (.own 3 (.int .i64))))))))))] 6 [] [.fld (.sl 0) 0,.fld (.sl 0) 1,.fld (.sl 0) 12,.fld (.sl 0) 13,.fld (.sl 0) 2] [.l (.sl 0) (.box 147 (.agg (.cons (.mat 27 42 (.leaf 8)) (.cons (.own 42 (.leaf 8)) (.cons (.own 42 (.leaf 8)) (.cons (.dat (.leaf 8)) (.cons (.own 3 (.int .i64)) (.one (.own 3 (.int .i64))))))))))] (.f (.n (.n (.f (.j [0,203,204,205] [.fld (.sl 0) 0,.fld (.sl 0) 1,.fld (.sl 0) 12,.fld (.sl 0) 13,.fld (.sl 0) 2] [.l (.sl 0) (.box 147 (.agg (.cons (.mat 27 42 (.leaf 8)) (.cons (.own 42 (.leaf 8)) (.cons (.own 42 (.leaf 8)) (.cons (.dat (.leaf 8)) (.cons (.own 3 (.int .i64)) (.one (.own 3 (.int .i64))))))))))] (.f (.n (.n (.n (.n (.n (.f (.l [0,17,203,204,205,265,266] [] [.s 267 (.dat (.int .i64)),.l (.fld (.sl 0) 2) (.own 42 (.leaf 8))] 8 [0,203,204,205] [] [.l (.fld (.sl 0) 2) (.own 42 (.leaf 8))] .no))))))))))))))))))))))))))))))))) Tryz.func70 [(42,Tryz.f42,.no),(97,Tryz.f97,.r [] [] [.s 1000 (.dat (.int .i64))] (.n (.f (.n (.f (.cut ⟨⟨[0,1,7],[],[.s 8 (.dat (.int .i64))]⟩,[(.exit 0,⟨[],[],[]⟩),(.ret,⟨[],[],[.s 1000 (.dat (.int .i64))]⟩)]⟩ .no)))))),(126,Tryz.f126,.r [] [] [.s 1000 (.dat (.int .i64))] (.n (.f (.n (.f (.cut ⟨⟨[0,1,7],[],[.s 8 (.dat (.int .i64))]⟩,[(.exit 0,⟨[],[],[]⟩),(.ret,⟨[],[],[.s 1000 (.dat (.int .i64))]⟩)]⟩ .no)))))),(127,Tryz.f127,.no)] (λ_ _=> by kernel_rfl) ⟨Bg,HI,KN,FW,Ds,TH,IY,tr⟩ ⟨Hb,tr⟩ ⟨vC,BT,p9,oJ,Ct,xF,v8,B',pW,pm,Cv,xA,tr⟩ ⟨⟨Tryz.func42,λ_ _=> by kernel_rfl⟩,⟨Tryz.func97,λ_ _=> by kernel_rfl⟩,⟨Tryz.func126,λ_ _=> by kernel_rfl⟩,⟨Tryz.func127,λ_ _=> by kernel_rfl⟩,tr⟩ tr ⟨Tt,YS,PH,tr⟩ ⟨N6,ZzF,tr⟩
noncomputable def Sd:FuncId×eu:=(24,⟨[.pair (.slice (.slice (.leaf 8))) (.pair (.slice (.leaf 8)) (.slice (.leaf 8)))],[.pair (.int .i64) (.pair (.leaf 8) (.pair (.slice (.leaf 8)) (.pair (.slice (.leaf 8)) (.slice (.leaf 8)))))],λp=>CZ p⟩)
theorem ZlA:KQ Sd:=Zi (Zm (C:=sL (Cl [xZ,Se,U9,Be] [] [Bj,Ht] [((42,"Neg"),224),((77,"Neg"),248)] [P'] [Pp,I0] [])) (.n (.n (.n (.n (.n (.two (.j [2,3,4,6] [] [.s 5 (.dat (.ptr (.pair (.slice (.slice (.leaf 8))) (.pair (.slice (.leaf 8)) (.pair (.slice (.leaf 8)) (.pair (.leaf 8) (.pair (.slice (.int .i64)) (.slice (.int .i64))))))))),.s 9 (.dat (.int .i64))] .no) (.n (.n (.two (.n (.n (.j [2,3,5,6,9,10] [] [.l (.sl 10) (.own 42 (.leaf 8))] .no))) (.f (.n (.f (.l [2,3,5,6,9,10,69,70] [] [.s 71 (.dat (.int .i64)),.l (.sl 10) (.own 42 (.leaf 8))] 0 [2,3,5,6,10] [] [.l (.sl 10) (.own 42 (.leaf 8))] (.f (.n (.n (.f (.f (.n (.n (.j [2,3,5,6,9,10,69,70,71] [] [.l (.sl 10) (.own 42 (.leaf 8))] .no))))))))))))))))))))) Tryz.func24 [(42,Tryz.f42,.no),(68,Tryz.f68,.n (.n (.two (.n (.f (.l [1,3,20] [.fld (.sl 3) 0,.fld (.sl 3) 1,.fld (.sl 3) 2] [.s 21 (.dat (.int .i64)),.l (.sl 3) (.box 147 (.agg (.cons (.mat 27 42 (.leaf 8)) (.cons (.own 42 (.leaf 8)) (.cons (.own 42 (.leaf 8)) (.cons (.dat (.leaf 8)) (.cons (.own 3 (.int .i64)) (.one (.own 3 (.int .i64))))))))))] 0 [1,3] [.fld (.sl 3) 0,.fld (.sl 3) 1,.fld (.sl 3) 2] [.l (.sl 3) (.box 147 (.agg (.cons (.mat 27 42 (.leaf 8)) (.cons (.own 42 (.leaf 8)) (.cons (.own 42 (.leaf 8)) (.cons (.dat (.leaf 8)) (.cons (.own 3 (.int .i64)) (.one (.own 3 (.int .i64))))))))))] .no))) (.f (.n (.f (.l [1,3,37] [.fld (.sl 3) 0,.fld (.sl 3) 1,.fld (.sl 3) 12,.fld (.sl 3) 13,.fld (.sl 3) 2] [.s 38 (.dat (.int .i64)),.l (.sl 3) (.box 147 (.agg (.cons (.mat 27 42 (.leaf 8)) (.cons (.own 42 (.leaf 8)) (.cons (.own 42 (.leaf 8)) (.cons (.dat (.leaf 8)) (.cons (.own 3 (.int .i64)) (.one (.own 3 (.int .i64))))))))))] 2 [3] [.fld (.sl 3) 0,.fld (.sl 3) 1,.fld (.sl 3) 12,.fld (.sl 3) 13,.fld (.sl 3) 2] [.l (.sl 3) (.box 147 (.agg (.cons (.mat 27 42 (.leaf 8)) (.cons (.own 42 (.leaf 8)) (.cons (.own 42 (.leaf 8)) (.cons (.dat (.leaf 8)) (.cons (.own 3 (.int .i64)) (.one (.own 3 (.int .i64))))))))))] .no)))))))] (λ_=> by kernel_rfl) ⟨Bg,ZhF,ZuC,Iv,tr⟩ ⟨Hb,OG,tr⟩ ⟨oN,pg,tr⟩ ⟨⟨Tryz.func42,λ_ _=> by kernel_rfl⟩,⟨Tryz.func68,λ_ _=> by kernel_rfl⟩,tr⟩ ⟨Wv,tr⟩ ⟨ZhC,Tt,tr⟩)
noncomputable def Qi:FuncId×eu:=(7,⟨[.pair (.slice (.slice (.leaf 8))) (.pair (.slice (.leaf 8)) (.slice (.leaf 8)))],[.pair (.int .i64) (.pair (.leaf 8) (.pair (.slice (.leaf 8)) (.pair (.slice (.leaf 8)) (.slice (.leaf 8))))),.int .i64],λp=>BJ p⟩)
theorem X5:KQ Qi:=Zi (Zm (C:=sL (eD [Nd,Sd] [] [] [])) .no Tryz.func7 [] (λ_=>by kernel_rfl) ⟨TX,ZlA,tr⟩)
noncomputable def Jj:FuncId×eu:=(8,⟨[.pair (.slice (.slice (.pair (.leaf 4) (.pair (.leaf 4) (.pair (.leaf 4) (.leaf 4)))))) (.pair (.slice (.pair (.leaf 4) (.pair (.leaf 4) (.pair (.leaf 4) (.leaf 4))))) (.slice (.pair (.leaf 4) (.pair (.leaf 4) (.pair (.leaf 4) (.leaf 4))))))],[.bool],λp=>Bt p⟩)
theorem OC:KQ Jj:=Zi (Zm (C:=eD [] [] [] []) (.n (.two (.f (.j [1] [] [.s 22 (.dat .bool)] .no)) (.f (.n (.f (.cut ⟨⟨[1],[],[.s 3 (.dat (.int .i64))]⟩,[(.exit 0,⟨[],[],[]⟩),(.ret,⟨[],[],[.s 1000 (.dat .bool)]⟩)]⟩ .no)))))) Tryz.func8 [] (λ_=>by kernel_rfl))
noncomputable def U7:FuncId×eu:=(25,⟨[.pair (.pair (.leaf 2) (.pair (.leaf 2) (.pair (.leaf 2) (.leaf 2)))) (.leaf 0)],[.pair (.leaf 3) (.pair (.leaf 3) (.pair (.leaf 3) (.leaf 3)))],λp=>Ja p⟩)
theorem ZyC:KQ U7:=Zi (Zm (C:=eD [B4,qQ] [] [] []) (.n (.n (.f (.n (.f (.unroll 5 .no)))))) Tryz.func25 [] (λ_=>by kernel_rfl) ⟨Da,vL,tr⟩)
noncomputable def LN:FuncId×eu:=(25,⟨[.leaf 8],[(.pair (.leaf 3) (.pair (.leaf 3) (.pair (.leaf 3) (.leaf 3))))],λx=>FN x⟩)
theorem X6:KQ LN:=by
 have a:=ZyC;unfold KQ U7 at a;unfold KQ LN
 dsimp only at a
 dsimp only
 refine mi a (λx=>cn x) (λv d x h=>h) ?_;intro x z b
 dsimp only at b ⊢
 simp only[FN]at b;obtain⟨c,rfl⟩:=l9 b;exact⟨_,XT c (by decide),λv y h=>h⟩
noncomputable def Un:FuncId×eu:=(76,⟨[.str,.str],[.str,.bool],λp=>A6 p.1 p.2⟩)
theorem ZpF:KQ Un:=Zi (Zm (C:=eD [] [] [] []) .no Tryz.func76 [(134,Tryz.f134,.r [] [] [.s 1000 (.dat .str),.s 1001 (.dat .bool)] .no),(175,Tryz.f175,.n (.f (.j [] [] [.s 4 (.dat .bool)] .no)))] (λ_=>by kernel_rfl) tr tr tr ⟨⟨Tryz.func134,λ_ _=>by kernel_rfl⟩,⟨Tryz.func175,λ_ _=>by kernel_rfl⟩,tr⟩)
noncomputable def Ki:FuncId×eu:=(201,⟨[.str,.int .u8],[.int .i64],λp=>F7 p.1 p.2⟩)
theorem zm:mq Tryz.prog Ki.1 Ki.2:=λw v m x z _ e f=>by
 obtain⟨i,n,a,g,j,b,h⟩:=e
 subst a b
 obtain⟨rfl,c⟩:=g
 obtain⟨rfl,k⟩:=h
 obtain⟨d,l⟩:=Y7 f
 subst d
 exact .inr ⟨_,λw=>zn (show oS Tryz.prog 201 Extern.BytealgIndexByte.indexByte from⟨_,Tryz.func201,by kernel_rfl,by kernel_rfl,by kernel_rfl,by kernel_rfl⟩) _ _ w,_,rfl,⟨rfl,sd c⟩⟩
noncomputable def Tg:FuncId×eu:=(176,⟨[.str,.str],[.int .i64],λp=>Gs p.1 p.2⟩)
theorem Wn:KQ Tg:=Zi (Zm (C:=eD [Ki] [] [] []) (.n (.n (.f (.f (.f (.j [0,1,5] [] [.s 16 (.dat .bool)] .no)))))) Tryz.func176 [(195,Tryz.f195,.no)] (λ_=>by kernel_rfl) ⟨zm,tr⟩ tr tr ⟨⟨Tryz.func195,λ_ _=>by kernel_rfl⟩,tr⟩)
noncomputable def Pe:FuncId×eu:=(77,⟨[.str,.str],[.str,.str,.bool],λp=>xI p.1 p.2⟩)
theorem Ax:KQ Pe:=Zi (Zm (C:=eD [Tg] [] [] []) .no Tryz.func77 [(135,Tryz.f135,.r [] [] [.s 1000 (.dat .str),.s 1001 (.dat .str),.s 1002 (.dat .bool)] .no)] (λ_=>by kernel_rfl) ⟨Wn,tr⟩ tr tr ⟨⟨Tryz.func135,λ_ _=>by kernel_rfl⟩,tr⟩)
noncomputable def PR:FuncId×eu:=(78,⟨[.str],[.bool],λp=>qp p⟩)
theorem YJ:KQ PR:=Zi (Zm (C:=eD [] [] [] []) (.n (.f (.n (.f (.cut ⟨⟨[0,5],[],[.s 6 (.dat (.int .i64))]⟩,[(.exit 0,⟨[0],[],[]⟩),(.ret,⟨[],[],[.s 1000 (.dat .bool)]⟩)]⟩ (.f (.n (.n (.f (.f (.n (.f (.j [0,5,6] [] [.s 18 (.dat .bool)] .no))))))))))))) Tryz.func78 [] (λ_=>by kernel_rfl))
noncomputable def Um:FuncId×eu:=(79,⟨[.str],[.leaf 1],λp=>mh p⟩)
theorem tP:KQ Um:=Zi (Zm (C:=eD [FD,Ea,DX] [] [] []) (.n (.n (.f (.n (.f (.l [0] [] [.s 3 (.dat (.leaf 1)),.s 4 (.dat (.int .i64))] 0 [] [] [.s 3 (.dat (.leaf 1))] .no)))))) Tryz.func79 [] (λ_=>by kernel_rfl) ⟨Km,Gd,Im,tr⟩)
noncomputable def UH:FuncId×eu:=(26,⟨[.leaf 3],[.leaf 4],λp=>xU p⟩)
theorem Yn:KQ UH:=Zi (Zm (C:=eD [Gg,Un,Pe,PR,Um,vR,pJ] [] [] []) (.n (.n (.n (.two (.n (.j [2,4,5] [] [.s 6 (.dat .str)] .no)) (.f (.f (.j [2,4,5,6] [] [.s 35 (.dat .bool)] .no))))))) Tryz.func26 [] (λ_=>by kernel_rfl) ⟨Mj,ZpF,Ax,YJ,tP,yg,pS,tr⟩)
noncomputable def Qg:FuncId×eu:=(9,⟨[.leaf 8],[.pair (.leaf 4) (.pair (.leaf 4) (.pair (.leaf 4) (.leaf 4)))],λp=>wb p⟩)
theorem ZvC:KQ Qg:=Zi (Zm (C:=sL (eD [LN,UH] [] [] [])) (.n (.n (.f (.n (.f (.unroll 5 .no)))))) Tryz.func9 [] (λ_=>by kernel_rfl) ⟨X6,Yn,tr⟩)
theorem Wh{y z:Rat}(h:ZV a y=some z):P4 a y=some z:=by
 unfold ZV at h;split at h
 ·rename_i j;obtain⟨⟨k,l⟩,m,n⟩:=j
  cases h
  unfold P4 lg;have o:=js a.num.natAbs y.num.natAbs;have p:=js a.den y.den;have f:gJ a.num.natAbs y.num.natAbs=some (a.num.natAbs*y.num.natAbs):=by unfold gJ;rw[iP ⟨gH (by omega),gH (by omega)⟩]
  have g:gJ a.den y.den=some (a.den*y.den):=by unfold gJ;rw[iP ⟨gH (by omega),gH (by omega)⟩]
  rw[f,Za,Za,Za,g,Za];unfold gy;rw[iP ⟨jo (by omega),jo (by omega),Nat.mul_ne_zero a.den_nz y.den_nz⟩,Za];have e:fE ((decide (a.num<0)) != (decide (y.num<0))) (a.num.natAbs*y.num.natAbs)=a.num*y.num:=by
   have i:((a.num.natAbs*y.num.natAbs:Nat):Int)=(a.num.natAbs:Int)*y.num.natAbs:=by simp
   unfold fE;rw[i];by_cases h:a.num<0
   ·have d:(a.num.natAbs:Int)= -a.num:=by omega
    by_cases c:y.num<0
    ·have b:(y.num.natAbs:Int)= -y.num:=by omega
     simp[h,c,d,b,Int.neg_mul,Int.mul_neg]
    ·have b:(y.num.natAbs:Int)=y.num:=by omega
     simp[h,c,d,b,Int.neg_mul,Int.mul_neg]
   ·have d:(a.num.natAbs:Int)=a.num:=by omega
    by_cases c:y.num<0
    ·have b:(y.num.natAbs:Int)= -y.num:=by omega
     simp[h,c,d,b,Int.neg_mul,Int.mul_neg]
    ·have b:(y.num.natAbs:Int)=y.num:=by omega
     simp[h,c,d,b,Int.neg_mul,Int.mul_neg]
  rw[e,←Rat.mul_def']
 ·cases h
noncomputable def IZ:FuncId×eu:=(143,⟨[.leaf 4,.leaf 4],[.leaf 4],λp=>ZV p.1 p.2⟩)
theorem NQ:KQ IZ:=Zi (ZC (C:=ft [(49,1),(51,4)] [pJ,Ea,CK]) .no Tryz.func143 [] (λv c x z b a=>.trans (by kernel_rfl) (Wh a)) ⟨pS,Gd,G1,tr⟩)
noncomputable def So:FuncId×eu:=(86,⟨[.pair (.leaf 4) (.pair (.leaf 4) (.pair (.leaf 4) (.leaf 4))),.pair (.leaf 4) (.pair (.leaf 4) (.pair (.leaf 4) (.leaf 4)))],[.pair (.leaf 4) (.pair (.leaf 4) (.pair (.leaf 4) (.leaf 4)))],λp=>DD p.1 p.2⟩)
theorem Aj:KQ So:=Zi (Zm (C:=eD [vR,C3,Fo,IZ] [] [] []) (.n (.n (.f (.n (.f (.unroll 5 (.f (.n (.f (.f (.n (.f (.unroll 5 .no))))))))))))) Tryz.func86 [] (λ_=>by kernel_rfl) ⟨yg,Fl,LX,NQ,tr⟩)
noncomputable def Fm:FuncId×eu:=(30,⟨[.slice (.pair (.leaf 4) (.pair (.leaf 4) (.pair (.leaf 4) (.leaf 4)))),.slice (.pair (.leaf 4) (.pair (.leaf 4) (.pair (.leaf 4) (.leaf 4))))],[.pair (.leaf 4) (.pair (.leaf 4) (.pair (.leaf 4) (.leaf 4)))],λp=>mB p.1 p.2⟩)
theorem JD:KQ Fm:=Zi (Zm (C:=eD [vR,C3,JP,So] [] [] []) (.n (.n (.f (.n (.f (.l [0,1,4,5] [] [.s 6 (.dat (.int .i64)),.l (.sl 5) (.box 53 (.dat (.pair (.leaf 4) (.pair (.leaf 4) (.pair (.leaf 4) (.leaf 4))))))] 0 [4,5] [] [.l (.sl 5) (.box 53 (.dat (.pair (.leaf 4) (.pair (.leaf 4) (.pair (.leaf 4) (.leaf 4))))))] .no)))))) Tryz.func30 [] (λ_=>by kernel_rfl) ⟨yg,Fl,Ox,Aj,tr⟩)
theorem V4{z:Int}(h:kR a=some z):NU a=some z:=by
 unfold kR at h
 cases h
 unfold NU lh;rw[Za];by_cases b:a=0
 ·subst b;rfl
 ·have:=R3 b;rw[eg b,Zf];by_cases c:a.num<0
  ·rw[eo c,Ze,Int.sign_eq_neg_one_of_neg c]
  ·rw[eg c,Zf,Int.sign_eq_one_of_pos (by omega)]
noncomputable def LS:FuncId×eu:=(89,⟨[.leaf 4],[.int .i64],λp=>kR p⟩)
theorem UO:KQ LS:=Zi (ZC (C:=ft [(49,1),(51,4)] [Iu]) .no Tryz.func89 [] (λv c x z b a=>.trans (by kernel_rfl) (V4 a)) ⟨JB,tr⟩)
noncomputable def Pt:FuncId×eu:=(186,⟨[.int .i64],[.leaf 4],λp=>OW p⟩)
theorem ZqF:KQ Pt:=Zi (Zm (C:=eD [pJ,Bc] [] [] []) .no Tryz.func186 [] (λ_=>by kernel_rfl) ⟨pS,DJ,tr⟩)
noncomputable def Rn:FuncId×eu:=(144,⟨[.int .i64],[.leaf 4],λp=>F8 p⟩)
theorem W9:KQ Rn:=Zi (Zm (C:=eD [pJ,Bc,Pt] [] [] []) .no Tryz.func144 [] (λ_=>by kernel_rfl) ⟨pS,DJ,ZqF,tr⟩)
noncomputable def Py:FuncId×eu:=(187,⟨[.leaf 1],[.leaf 1],λp=>FH p⟩)
theorem tQ:KQ Py:=Zi (Zm (C:=eD [FD,Ha,CG,Ni,Bc,Ln] [] [] []) (.n (.n (.n (.f (.cut ⟨⟨[0],[],[.s 3 (.dat (.leaf 1))]⟩,[(.ret,⟨[],[],[.s 1000 (.dat (.leaf 1))]⟩)]⟩ .no))))) Tryz.func187 [] (λ_=>by kernel_rfl) ⟨Km,Jw,Gl,QI,DJ,Si,tr⟩)
noncomputable def SA:FuncId×eu:=(145,⟨[.int .u64,.int .i64],[.leaf 4],λp=>px p.1 p.2⟩)
theorem ZrF:KQ SA:=Zi (Zm (C:=eD [pJ,DX,Bc,Py] [] [] []) .no Tryz.func145 [] (λ_=>by kernel_rfl) ⟨pS,Im,DJ,tQ,tr⟩)
noncomputable def Us:FuncId×eu:=(88,⟨[.pair (.leaf 4) (.pair (.leaf 4) (.pair (.leaf 4) (.leaf 4))),.int .i64],[.leaf 4,.leaf 4],λp=>DM p.1 p.2⟩)
theorem ZtD:KQ Us:=Zi (Zm (C:=eD [LS,Fo,IZ,Rn,SA] [] [] []) (.n (.n (.n (.n (.f (.n (.f (.unroll 4 (.f (.n (.f (.f (.n (.n (.f (.n (.j [1,2,4,5,6,7,8,9,10,12,13] [] [.l (.sl 12) (.box 51 (.dat (.leaf 4))),.l (.sl 13) (.box 51 (.dat (.leaf 4)))] .no))))))))))))))))) Tryz.func88 [] (λ_=>by kernel_rfl) ⟨UO,LX,NQ,W9,ZrF,tr⟩)
noncomputable def FX:FuncId×eu:=(33,⟨[.pair (.leaf 4) (.pair (.leaf 4) (.pair (.leaf 4) (.leaf 4)))],[.int .i64],λp=>pD p⟩)
theorem MG:KQ FX:=Zi (Zm (C:=eD [Dt,Us,LS] [] [] []) (.n (.n (.n (.f (.cut ⟨⟨[1],[],[.s 3 (.dat (.int .i64))]⟩,[(.ret,⟨[],[],[.s 1000 (.dat (.int .i64))]⟩)]⟩ .no))))) Tryz.func33 [] (λ_=>by kernel_rfl) ⟨Iy,ZtD,UO,tr⟩)
noncomputable def Is:FuncId×eu:=(32,⟨[.slice (.pair (.leaf 4) (.pair (.leaf 4) (.pair (.leaf 4) (.leaf 4))))],[.bool],λp=>vO p⟩)
theorem LP:KQ Is:=Zi (Zm (C:=eD [FX] [] [] []) (.n (.f (.n (.f (.cut ⟨⟨[0],[],[.s 3 (.dat (.int .i64))]⟩,[(.exit 0,⟨[],[],[]⟩),(.ret,⟨[],[],[.s 1000 (.dat .bool)]⟩)]⟩ .no))))) Tryz.func32 [] (λ_=>by kernel_rfl) ⟨MG,tr⟩)
noncomputable def Kv:FuncId×eu:=(82,⟨[.pair (.leaf 4) (.pair (.leaf 4) (.pair (.leaf 4) (.leaf 4))),.pair (.leaf 4) (.pair (.leaf 4) (.pair (.leaf 4) (.leaf 4)))],[.int .i64],λp=>Ec p.1 p.2⟩)
theorem SL:KQ Kv:=Zi (Zm (C:=eD [FX,Ig] [] [] []) .no Tryz.func82 [] (λ_=>by kernel_rfl) ⟨MG,Lp,tr⟩)
noncomputable def U1:FuncId×eu:=(27,⟨[.pair (.slice (.slice (.pair (.leaf 4) (.pair (.leaf 4) (.pair (.leaf 4) (.leaf 4)))))) (.pair (.slice (.pair (.leaf 4) (.pair (.leaf 4) (.pair (.leaf 4) (.leaf 4))))) (.slice (.pair (.leaf 4) (.pair (.leaf 4) (.pair (.leaf 4) (.leaf 4)))))),.slice (.pair (.leaf 4) (.pair (.leaf 4) (.pair (.leaf 4) (.leaf 4))))],[.bool],λp=>DS p.1 p.2⟩)
theorem ZpC:KQ U1:=Zi (Zm (C:=eD [Fm,Is,Kv] [] [] []) (.n (.f (.n (.f (.cut ⟨⟨[1,2],[],[.s 5 (.dat (.int .i64))]⟩,[(.exit 0,⟨[1],[],[]⟩),(.ret,⟨[],[],[.s 1000 (.dat .bool)]⟩)]⟩ .no))))) Tryz.func27 [] (λ_=>by kernel_rfl) ⟨JD,LP,SL,tr⟩)
noncomputable def J8:FuncId×eu:=(34,⟨[.slice (.slice (.pair (.leaf 4) (.pair (.leaf 4) (.pair (.leaf 4) (.leaf 4))))),.int .i64],[.slice (.pair (.leaf 4) (.pair (.leaf 4) (.pair (.leaf 4) (.leaf 4))))],λp=>C6 p.1 p.2⟩)
theorem PX:KQ J8:=Zi (Zm (C:=eD [] [] [] []) (.n (.n (.f (.n (.f (.l [0,1] [] [.s 5 (.own 53 (.pair (.leaf 4) (.pair (.leaf 4) (.pair (.leaf 4) (.leaf 4))))),.s 6 (.dat (.int .i64))] 0 [] [] [.s 5 (.own 53 (.pair (.leaf 4) (.pair (.leaf 4) (.pair (.leaf 4) (.leaf 4)))))] .no)))))) Tryz.func34 [] (λ_=>by kernel_rfl))
noncomputable def NS:FuncId×eu:=(28,⟨[.pair (.slice (.slice (.pair (.leaf 4) (.pair (.leaf 4) (.pair (.leaf 4) (.leaf 4)))))) (.pair (.slice (.pair (.leaf 4) (.pair (.leaf 4) (.pair (.leaf 4) (.leaf 4))))) (.slice (.pair (.leaf 4) (.pair (.leaf 4) (.pair (.leaf 4) (.leaf 4)))))),.slice (.pair (.leaf 4) (.pair (.leaf 4) (.pair (.leaf 4) (.leaf 4))))],[.bool],λp=>HA p.1 p.2⟩)
theorem tL:KQ NS:=Zi (Zm (C:=eD [Fm,Is,J8,Kv] [] [] []) (.n (.two (.f (.j [1,2] [] [.s 16 (.dat .bool)] .no)) (.f (.n (.f (.cut ⟨⟨[1,2],[],[.s 5 (.dat (.int .i64))]⟩,[(.exit 0,⟨[],[],[]⟩),(.ret,⟨[],[],[.s 1000 (.dat .bool)]⟩)]⟩ .no)))))) Tryz.func28 [] (λ_=>by kernel_rfl) ⟨JD,LP,PX,SL,tr⟩)
noncomputable def UN:FuncId×eu:=(29,⟨[.pair (.leaf 4) (.pair (.leaf 4) (.pair (.leaf 4) (.leaf 4))),.pair (.leaf 4) (.pair (.leaf 4) (.pair (.leaf 4) (.leaf 4)))],[.bool],λp=>Eg p.1 p.2⟩)
theorem um:KQ UN:=Zi (Zm (C:=eD [Dt,Ig] [] [] []) .no Tryz.func29 [] (λ_=>by kernel_rfl) ⟨Iy,Lp,tr⟩)
noncomputable def SD:FuncId×eu:=(10,⟨[.pair (.slice (.slice (.pair (.leaf 4) (.pair (.leaf 4) (.pair (.leaf 4) (.leaf 4)))))) (.pair (.slice (.pair (.leaf 4) (.pair (.leaf 4) (.pair (.leaf 4) (.leaf 4))))) (.slice (.pair (.leaf 4) (.pair (.leaf 4) (.pair (.leaf 4) (.leaf 4)))))),.pair (.int .i64) (.pair (.pair (.leaf 4) (.pair (.leaf 4) (.pair (.leaf 4) (.leaf 4)))) (.pair (.slice (.pair (.leaf 4) (.pair (.leaf 4) (.pair (.leaf 4) (.leaf 4))))) (.pair (.slice (.pair (.leaf 4) (.pair (.leaf 4) (.pair (.leaf 4) (.leaf 4))))) (.slice (.pair (.leaf 4) (.pair (.leaf 4) (.pair (.leaf 4) (.leaf 4))))))))],[.bool],λp=>FP p.1 p.2⟩)
theorem VS:KQ SD:=Zi (Zm (C:=eD [Jj,U1,NS,UN,Fm,Dt,Is,FX,J8] [] [] []) (.n (.n (.two (.n (.f (.f (.j [] [] [.s 4 (.dat .bool)] .no)))) (.n (.two (.n (.f (.two (.f (.j [2,3] [] [.s 98 (.dat .bool)] .no)) (.f (.n (.f (.cut ⟨⟨[2,3],[],[.s 5 (.dat (.int .i64))]⟩,[(.exit 0,⟨[],[],[]⟩),(.ret,⟨[],[],[.s 1000 (.dat .bool)]⟩)]⟩ .no))))))) (.two (.f (.j [2,3] [] [.s 154 (.dat .bool)] .no)) (.f (.n (.f (.cut ⟨⟨[2,3],[],[.s 6 (.dat (.int .i64))]⟩,[(.exit 2,⟨[2,3],[],[]⟩),(.ret,⟨[],[],[.s 1000 (.dat .bool)]⟩)]⟩ .no)))))))))) Tryz.func10 [] (λ_=>by kernel_rfl) ⟨OC,ZpC,tL,um,JD,Iy,LP,MG,PX,tr⟩)
noncomputable def FZ:FuncId×eu:=(38,⟨[.slice (.leaf 8)],[.bool],λp=>qo p⟩)
theorem Jq:KQ FZ:=Zi (Zm (C:=sL (eD [xE] [] [] [((42,"Sign"),227),((77,"Sign"),251)])) .no Tryz.func38 [(90,Tryz.f90,.no),(91,Tryz.f91,.no),(126,Tryz.f126,.r [] [] [.s 1000 (.dat (.int .i64))] (.n (.f (.n (.f (.cut ⟨⟨[0,1,7],[],[.s 8 (.dat (.int .i64))]⟩,[(.exit 0,⟨[],[],[]⟩),(.ret,⟨[],[],[.s 1000 (.dat (.int .i64))]⟩)]⟩ .no))))))] (λ_=> by kernel_rfl) ⟨Ds,tr⟩ tr ⟨oJ,pm,tr⟩ ⟨⟨Tryz.func90,λ_ _=> by kernel_rfl⟩,⟨Tryz.func91,λ_ _=> by kernel_rfl⟩,⟨Tryz.func126,λ_ _=> by kernel_rfl⟩,tr⟩)
noncomputable def Hs:FuncId×eu:=(40,⟨[.slice (.leaf 8),.slice (.leaf 8)],[.bool],λp=>vB p.1 p.2⟩)
theorem Kw:KQ Hs:=Zi (Zm (C:=sL (eD [DH] [] [] [((42,"Cmp"),220),((77,"Cmp"),244)])) (.n (.f (.n (.f (.cut ⟨⟨[0,1,7],[],[.s 8 (.dat (.int .i64))]⟩,[(.exit 0,⟨[],[],[]⟩),(.ret,⟨[],[],[.s 1000 (.dat .bool)]⟩)]⟩ .no))))) Tryz.func40 [] (λ_=> by kernel_rfl) ⟨KN,tr⟩ tr ⟨BT,B',tr⟩)
noncomputable def MV:FuncId×eu:=(37,⟨[.slice (.leaf 8),.slice (.leaf 8)],[.leaf 8],λp=>vi p.1 p.2⟩)
theorem O1:KQ MV:=Zi (Zm (C:=sL (eD [xZ,B3,B0] [] [] [((42,"Add"),219),((42,"Mul"),222),((77,"Add"),243),((77,"Mul"),246)])) (.n (.n (.f (.n (.f (.l [0,1,4,5,9] [] [.s 10 (.dat (.int .i64)),.l (.sl 5) (.box 42 (.dat (.leaf 8)))] 0 [4,5] [] [.l (.sl 5) (.box 42 (.dat (.leaf 8)))] .no)))))) Tryz.func37 [] (λ_=> by kernel_rfl) ⟨Bg,HI,FW,tr⟩ tr ⟨vC,p9,v8,pW,tr⟩)
noncomputable def JJ:FuncId×eu:=(41,⟨[.slice (.slice (.leaf 8)),.slice (.leaf 8)],[.slice (.leaf 8)],λp=>BW p.1 p.2⟩)
theorem Rd:KQ JJ:=Zi (Zm (C:=sL (eD [MV] [] [] [])) (.n (.n (.f (.n (.f (.l [1,8,9] [] [.s 5 (.own 42 (.leaf 8)),.s 10 (.dat (.int .i64))] 0 [] [] [.s 5 (.own 42 (.leaf 8))] .no)))))) Tryz.func41 [] (λ_=>by kernel_rfl) ⟨O1,tr⟩)
noncomputable def Vm:FuncId×eu:=(35,⟨[.pair (.slice (.slice (.leaf 8))) (.pair (.slice (.leaf 8)) (.slice (.leaf 8))),.slice (.leaf 8)],[.bool],λp=>Bm p.1 p.2⟩)
theorem XD:KQ Vm:=Zi (Zm (C:=sL (eD [FZ,Hs,JJ] [] [] [])) (.n (.f (.j [] [] [.s 4 (.dat .bool)] .no))) Tryz.func35 [] (λ_=>by kernel_rfl) ⟨Jq,Kw,Rd,tr⟩)
noncomputable def JI:FuncId×eu:=(39,⟨[.pair (.slice (.slice (.leaf 8))) (.pair (.slice (.leaf 8)) (.slice (.leaf 8))),.slice (.leaf 8)],[.slice (.leaf 8)],λp=>Cw p.1 p.2⟩)
theorem U6:KQ JI:=Zi (Zm (C:=sL (eD [B3,B0] [] [D3] [((42,"Add"),219),((42,"Mul"),222),((77,"Add"),243),((77,"Mul"),246)])) (.n (.n (.f (.n (.f (.l [1,5,15,16] [] [.s 17 (.dat (.int .i64)),.l (.sl 5) (.own 42 (.leaf 8))] 0 [5] [] [.l (.sl 5) (.own 42 (.leaf 8))] (.f (.n (.n (.f (.f (.n (.n (.f (.l [1,5,6,15,16,17,22,23] [] [.s 24 (.dat (.int .i64)),.l (.sl 5) (.own 42 (.leaf 8))] 2 [1,5,15,16,17] [] [.l (.sl 5) (.own 42 (.leaf 8))] .no))))))))))))))) Tryz.func39 [] (λ_=> by kernel_rfl) ⟨HI,FW,tr⟩ ⟨Fg,tr⟩ ⟨vC,p9,v8,pW,tr⟩)
noncomputable def Pw:FuncId×eu:=(36,⟨[.pair (.slice (.slice (.leaf 8))) (.pair (.slice (.leaf 8)) (.slice (.leaf 8))),.slice (.leaf 8)],[.bool],λp=>Kz p.1 p.2⟩)
theorem Xw:KQ Pw:=Zi (Zm (C:=sL (eD [FZ,JI,Hs] [] [] [])) (.n (.f (.j [] [] [.s 4 (.dat .bool)] .no))) Tryz.func36 [] (λ_=>by kernel_rfl) ⟨Jq,U6,Kw,tr⟩)
noncomputable def MH(x:(Int×Int×Int×Int)×Nat)(y:(Int×Int×Int×Int)×Nat):Option Bool :=
 dU (Eu x y) λa=>
 dU (Cu a) λb=>
 some b
noncomputable def RN:FuncId×eu:=(226,⟨[.pair (.pair (.leaf 2) (.pair (.leaf 2) (.pair (.leaf 2) (.leaf 2)))) (.leaf 0),.pair (.pair (.leaf 2) (.pair (.leaf 2) (.pair (.leaf 2) (.leaf 2)))) (.leaf 0)],[.bool],λp=>MH p.1 p.2⟩)
theorem XV:KQ RN:=Zi (Zm (C:=eD [H9,FF] [] [] []) .no Tryz.func226 [] (λ_=>by kernel_rfl) ⟨MC,IR,tr⟩)
noncomputable def Lt:FuncId×eu:=(226,⟨[.leaf 8,.leaf 8],[.bool],λx=>DQ x.1 x.2⟩)
theorem ZhB:KQ Lt:=by
 have a:=XV;unfold KQ RN at a;unfold KQ Lt
 dsimp only at a
 dsimp only
 refine mi a (λx=>(cn x.1,cn x.2)) (λv e x h=>h) ?_;intro x z b
 dsimp only at b ⊢
 simp only[DQ]at b;obtain⟨⟨c,d⟩,rfl⟩:=l9 b;refine⟨_,?_,λv y h=>h⟩;show MH (cn x.1) (cn x.2)=_;have:=Ke c d (by decide);unfold MH;rw[this.1,Za,Ij this.2 (by decide),Za];rfl
noncomputable def Th:FuncId×eu:=(11,⟨[.pair (.slice (.slice (.leaf 8))) (.pair (.slice (.leaf 8)) (.slice (.leaf 8))),.pair (.int .i64) (.pair (.leaf 8) (.pair (.slice (.leaf 8)) (.pair (.slice (.leaf 8)) (.slice (.leaf 8)))))],[.bool],λp=>F' p.1 p.2⟩)
theorem WU:KQ Th:=Zi (Zm (C:=sL (eD [Nd,Vm,Pw,MV,FZ,JI,Hs,JJ,Lt,xE,CF] [] [D3] [((42,"Same"),226),((42,"Sign"),227),((42,"Zero"),229),((77,"Same"),250),((77,"Sign"),251),((77,"Zero"),253)])) (.n (.n (.two (.j [2,3] [] [.s 5 (.dat .bool)] .no) (.f (.n (.f (.n (.two (.f (.j [] [] [.s 4 (.dat .bool)] .no)) (.n (.two (.f (.j [] [] [.s 4 (.dat .bool)] .no)) (.n (.f (.two (.f (.j [2,3] [] [.s 135 (.dat .bool)] .no)) (.f (.j [] [] [.s 4 (.dat .bool)] .no))))))))))))))) Tryz.func11 [] (λ_=> by kernel_rfl) ⟨TX,XD,Xw,O1,Jq,U6,Kw,Rd,ZhB,Ds,IY,tr⟩ ⟨Fg,tr⟩ ⟨RK,oJ,xF,QB,pm,xA,tr⟩)
noncomputable def ZmA:FuncId×eu:=(3,⟨[.slice (.slice (.pair (.pair (.int .i64) (.int .i64)) (.pair (.pair (.int .i64) (.int .i64)) (.pair (.pair (.int .i64) (.int .i64)) (.pair (.int .i64) (.int .i64)))))),.slice (.pair (.pair (.int .i64) (.int .i64)) (.pair (.pair (.int .i64) (.int .i64)) (.pair (.pair (.int .i64) (.int .i64)) (.pair (.int .i64) (.int .i64))))),.slice (.pair (.pair (.int .i64) (.int .i64)) (.pair (.pair (.int .i64) (.int .i64)) (.pair (.pair (.int .i64) (.int .i64)) (.pair (.int .i64) (.int .i64)))))],[.bool],λp=>Fu p.1 p.2.1 p.2.2⟩)
theorem Xg:KR ZmA:=Zm (C:=sL (eD [RZ,S5,On,Qi,Jj,Qg,SD,Th] [] [] [])) (.n (.two (.f (.j [0,1,2] [] [.s 43 (.dat .bool)] .no)) (.n (.n (.two (.n (.f (.cut ⟨⟨[1,2,7,8,45,46],[],[.s 47 (.dat (.int .i64)),.l (.sl 7) (.box 29 (.agg (.cons (.own 27 (.slice (.leaf 8))) (.cons (.own 42 (.leaf 8)) (.one (.own 42 (.leaf 8))))))),.l (.sl 8) (.box 33 (.agg (.cons (.own 31 (.slice (.pair (.leaf 4) (.pair (.leaf 4) (.pair (.leaf 4) (.leaf 4)))))) (.cons (.own 53 (.pair (.leaf 4) (.pair (.leaf 4) (.pair (.leaf 4) (.leaf 4))))) (.one (.own 53 (.pair (.leaf 4) (.pair (.leaf 4) (.pair (.leaf 4) (.leaf 4))))))))))]⟩,[(.exit 0,⟨[1,2,7,8],[],[.l (.sl 7) (.box 29 (.agg (.cons (.own 27 (.slice (.leaf 8))) (.cons (.own 42 (.leaf 8)) (.one (.own 42 (.leaf 8))))))),.l (.sl 8) (.box 33 (.agg (.cons (.own 31 (.slice (.pair (.leaf 4) (.pair (.leaf 4) (.pair (.leaf 4) (.leaf 4)))))) (.cons (.own 53 (.pair (.leaf 4) (.pair (.leaf 4) (.pair (.leaf 4) (.leaf 4))))) (.one (.own 53 (.pair (.leaf 4) (.pair (.leaf 4) (.pair (.leaf 4) (.leaf 4))))))))))]⟩),(.ret,⟨[],[],[.s 1000 (.dat .bool)]⟩)]⟩ (.f (.n (.n (.f (.f (.n (.f (.f (.j [1,2,7,8,10,45,46,47] [] [.s 58 (.dat .bool)] .no)))))))))))) (.n (.n (.n (.two (.n (.f (.f (.j [] [] [.s 6 (.dat .bool)] .no)))) (.n (.n (.n (.two (.n (.f (.unroll 5 (.f (.n (.n (.f (.f (.n (.n (.f (.l [7,8,13,14,15,16,17,18,118,123,124] [.fld (.sl 17) 0,.fld (.sl 17) 1,.fld (.sl 17) 2,.fld (.sl 17) 3] [.s 125 (.dat (.int .i64)),.l (.sl 17) (.box 57 (.agg (.cons (.own 53 (.pair (.leaf 4) (.pair (.leaf 4) (.pair (.leaf 4) (.leaf 4))))) (.cons (.own 53 (.pair (.leaf 4) (.pair (.leaf 4) (.pair (.leaf 4) (.leaf 4))))) (.cons (.own 53 (.pair (.leaf 4) (.pair (.leaf 4) (.pair (.leaf 4) (.leaf 4))))) (.one (.own 53 (.pair (.leaf 4) (.pair (.leaf 4) (.pair (.leaf 4) (.leaf 4)))))))))))] 4 [7,8,13,14,15,16,17,118] [.fld (.sl 17) 0,.fld (.sl 17) 1,.fld (.sl 17) 2,.fld (.sl 17) 3] [.l (.sl 17) (.box 57 (.agg (.cons (.own 53 (.pair (.leaf 4) (.pair (.leaf 4) (.pair (.leaf 4) (.leaf 4))))) (.cons (.own 53 (.pair (.leaf 4) (.pair (.leaf 4) (.pair (.leaf 4) (.leaf 4))))) (.cons (.own 53 (.pair (.leaf 4) (.pair (.leaf 4) (.pair (.leaf 4) (.leaf 4))))) (.one (.own 53 (.pair (.leaf 4) (.pair (.leaf 4) (.pair (.leaf 4) (.leaf 4)))))))))))] .no)))))))))))) (.n (.f (.j [] [] [.s 6 (.dat .bool)] .no)))))))))))))))) Tryz.func3 [] (λ_=>by kernel_rfl) ⟨Ws,ZcB,ZwD,X5,OC,ZvC,VS,WU,tr⟩
theorem Wj{h:World}{d:Zb}(k:fc d h){e:List Value}{a:(List (List ((Int×Int)×(Int×Int)×(Int×Int)×(Int×Int))))}(l:ee.rel (Zy (Zy (Zj (Zj (Zd .i64) (Zd .i64)) (Zj (Zj (Zd .i64) (Zd .i64)) (Zj (Zj (Zd .i64) (Zd .i64)) (Zj (Zd .i64) (Zd .i64))))))) d e a){f:List Value}{b:(List ((Int×Int)×(Int×Int)×(Int×Int)×(Int×Int)))}(m:ee.rel (Zy (Zj (Zj (Zd .i64) (Zd .i64)) (Zj (Zj (Zd .i64) (Zd .i64)) (Zj (Zj (Zd .i64) (Zd .i64)) (Zj (Zd .i64) (Zd .i64)))))) d f b){g:List Value}{c:(List ((Int×Int)×(Int×Int)×(Int×Int)×(Int×Int)))}(n:ee.rel (Zy (Zj (Zj (Zd .i64) (Zd .i64)) (Zj (Zj (Zd .i64) (Zd .i64)) (Zj (Zj (Zd .i64) (Zd .i64)) (Zj (Zd .i64) (Zd .i64)))))) d g c){z:Bool}(j:Fu a b c=some z):fM Tryz.prog 3 #[(Zy (Zy (Zj (Zj (Zd .i64) (Zd .i64)) (Zj (Zj (Zd .i64) (Zd .i64)) (Zj (Zj (Zd .i64) (Zd .i64)) (Zj (Zd .i64) (Zd .i64))))))).val e,(Zy (Zj (Zj (Zd .i64) (Zd .i64)) (Zj (Zj (Zd .i64) (Zd .i64)) (Zj (Zj (Zd .i64) (Zd .i64)) (Zj (Zd .i64) (Zd .i64)))))).val f,(Zy (Zj (Zj (Zd .i64) (Zd .i64)) (Zj (Zj (Zd .i64) (Zd .i64)) (Zj (Zj (Zd .i64) (Zd .i64)) (Zj (Zd .i64) (Zd .i64)))))).val g] h d (λy o=>∃i,y=ny.val i∧ny.rel o i z):=(Xg h d [(Zy (Zy (Zj (Zj (Zd .i64) (Zd .i64)) (Zj (Zj (Zd .i64) (Zd .i64)) (Zj (Zj (Zd .i64) (Zd .i64)) (Zj (Zd .i64) (Zd .i64))))))).val e,(Zy (Zj (Zj (Zd .i64) (Zd .i64)) (Zj (Zj (Zd .i64) (Zd .i64)) (Zj (Zj (Zd .i64) (Zd .i64)) (Zj (Zd .i64) (Zd .i64)))))).val f,(Zy (Zj (Zj (Zd .i64) (Zd .i64)) (Zj (Zj (Zd .i64) (Zd .i64)) (Zj (Zj (Zd .i64) (Zd .i64)) (Zj (Zd .i64) (Zd .i64)))))).val g] (a,b,c) z k ⟨e,_,rfl,l,f,_,rfl,m,g,rfl,n⟩ j).2
end
end Go.Eng
