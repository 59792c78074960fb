/- Lemmas towards the statement: the engine of the walks, the functions' models, laws and walks, part 8. Conditions: as each states. -/
import Derived.Test.YtggdgpplccamkaaGreatProg
import Derived.Test.YtggdgpplccamkaaGreatMsG
set_option linter.all false
set_option maxRecDepth 100000
namespace Go.Eng
open Go.RowKit
section
variable {P:Program} {K:Nat} {w0:Base} {v0:Zb} {σ:List (Nat×Value)} {ℓ:List Loc} {v:Zb} {a:Act} {w:World}
variable {d:Option Nat} {ty:TypeId} {pos:String} {aft:Array Edge} {g:Option (Nat×Bool)}
theorem Zlw (hS:St K w0 v0 σ ℓ v a w) {t e:TypeId} {sz b n cap p q m:Nat} {x lo hi mx:Operand} {k k2 k3:IntKind} (ht:Z2b P t e sz) (e1:ev σ x=some (.slice (some ⟨b,0,none⟩) n cap)) (e2:ev σ lo=some (.int k (p:Int))) (e3:ev σ hi=some (.int k2 (q:Int))) (e4:ev σ mx=some (.int k3 (m:Int))) (h1:p≤q) (h2:q≤m) (h3:m≤cap) :
  ∃ y,(execOp a.eval ⟨d,.slice t x (some lo) (some hi) (some mx),ty,pos,aft,g⟩).run P w = .ok (.value y) w:=by
 have h4:(0:Int)≤(p:Int)∧(p:Int)≤(q:Int):=by omega
 have h5:(0:Int)≤(q:Int)∧(q:Int)≤(m:Int):=by omega
 have h6:(0:Int)≤(m:Int)∧(m:Int)≤(cap:Int):=by omega
 exact⟨.slice (if m=p then some ⟨b,0,none⟩ else some (Addr.add ⟨b,0,none⟩ (p*sz))) (q-p) (m-p),by simp[execOp,Instr.sliceAt,Instr.slice,Instr.sliceBounds,Instr.sliceBound,asIntOf,hS.eval e1,hS.eval e2,hS.eval e3,hS.eval e4,ht.1,ht.2,h1,h2,h3,h4,h5,h6]⟩
theorem ZWs (hS:St K w0 v0 σ ℓ v a w) {t e:TypeId} {sz b n cap p q:Nat} {x lo hi:Operand} {k k2:IntKind} (ht:Z2b P t e sz) (e1:ev σ x=some (.slice (some ⟨b,0,none⟩) n cap)) (e2:ev σ lo=some (.int k (p:Int))) (e3:ev σ hi=some (.int k2 (q:Int))) (h1:p≤q) (h2:q≤cap) (hc:p<cap) :
  (execOp a.eval ⟨d,.slice t x (some lo) (some hi) none,ty,pos,aft,g⟩).run P w = .ok (.value (.slice (some ⟨b,p*sz,none⟩) (q-p) (cap-p))) w:=by
 have h4:(0:Int)≤(p:Int)∧(p:Int)≤(q:Int):=by omega
 have h5:(0:Int)≤(q:Int)∧(q:Int)≤(cap:Int):=by omega
 have h6:¬ cap=p:=by omega
 simp[execOp,Instr.sliceAt,Instr.slice,Instr.sliceBounds,Instr.sliceBound,asIntOf,hS.eval e1,hS.eval e2,hS.eval e3,ht.1,ht.2,h1,h2,h4,h5,h6,Z3a]
theorem Zju {t e ty:TypeId} {sz bytes:Nat} {z:Value} (E:Elem P t e sz bytes z) (hS:St K w0 v0 σ ℓ v a w) {i n cap b:Nat} {cs:List Value} (hi:ℓ[i]? = some (.own (some b) e sz n cap cs))
  {q m c:Nat} {ad:Addr} {news:List Value} (hl:news.length=m*sz) (hnews:∀ j u,news[j]? = some u→w.cell? (ad.add j)=some u) (hp:news.all plain=true) (hq:q+m≤n) :
  ∃ w',(Builtin.append_ #[t,t] ty #[.slice (some ⟨b,0,none⟩) q cap,.slice (some ad) m c]).run P w = .ok (.slice (some ⟨b,0,none⟩) (q+m) cap) w' ∧
   St K w0 v0 σ (ℓ.set i (.own (some b) e sz n cap (cs.take (q*sz)++news++cs.drop (q*sz+news.length)))) v a w':=by
 obtain⟨inf,hinf,hz,hs,hby⟩:=info_parts E.info;subst hs;obtain⟨hcl,cur,hg,hnc,hcx,hcs,htake⟩:=(hS.loc _ (mG hi)).1;have h1:q*inf.size+news.length≤n*inf.size:=by rw[hl,← Nat.add_mul];exact mR _ hq
 have h2:n*inf.size≤cap*inf.size:=mR _ hnc;have hcl2:cur.toList.length=cap*inf.size:=by simpa using hcs
 have hr:=run_append_room (P:=P) w t ty e inf E.ty hinf b q cap cur hg ad m c news hl hnews (Zrm hp) (by omega) (by omega);refine⟨_,hr,hS.setRow hi rfl rfl ⟨?_,_,setRow_heap w b cur _ e _ hg,hnc,hcx,?_,?_⟩⟩
 ·simp;omega
 ·simp;omega
 ·show List.take (n*inf.size) (_++_++_)=_;rw[Z6l _ _ _ _ h1 (by omega),htake]
theorem Zos {t e ty:TypeId} {sz bytes:Nat} {z:Value} (E:Elem P t e sz bytes z) (hS:St K w0 v0 σ ℓ v a w) {i n cap b:Nat} {cs:List Value} (hi:ℓ[i]? = some (.own (some b) e sz n cap cs)) {p c:Nat} (hp:p+1≤n) (hz1:∀ x ∈ (Builtin.zeroCells z.cells 1).toList,x.oneCell'=true) :
  ∃ w' zc,zc.length=sz∧(∀ ty,(Builtin.clear_ #[t] ty #[.slice (some ⟨b,p*sz,none⟩) 1 c]).run P w = .ok (.tuple #[]) w') ∧
   St K w0 v0 σ (ℓ.set i (.own (some b) e sz n cap (cs.take (p*sz)++zc++cs.drop (p*sz+zc.length)))) v a w':=by
 obtain⟨inf,hinf,hz,hs,hby⟩:=info_parts E.info;obtain⟨hcl,cur,hg,hnc,hcx,hcs,htake⟩:=(hS.loc _ (mG hi)).1;have hzl:(Builtin.zeroCells z.cells 1).toList.length=sz:=by
  have:=size_zeroCells z.cells 1;rw[E.cells]at this
  simpa using this
 have h1:p*sz+sz≤n*sz:=by
  have:=mR sz hp;rw[Nat.add_mul,Nat.one_mul]at this;exact this
 have h2:n*sz≤cap*sz:=mR _ hnc;have hcl2:cur.toList.length=cap*sz:=by simpa using hcs
 have hst:=run_storeCells_at P b (p*sz) e (Builtin.zeroCells z.cells 1).toList 0 cur w hg (by rw[hzl];omega) hz1;have hzv:∀ w:World,(zeroValue e).run P w = .ok z w:=λw=>by simp[zeroValue,typeInfo,hinf,hz]
 refine⟨_,(Builtin.zeroCells z.cells 1).toList,hzl,λty=>?_,hS.setRow hi rfl rfl (c:=(cur.toList.take (p*sz)++(Builtin.zeroCells z.cells 1).toList++cur.toList.drop (p*sz+(Builtin.zeroCells z.cells 1).toList.length)).toArray) ⟨?_,_,setRow_heap w b cur _ e _ hg,hnc,hcx,?_,?_⟩⟩
 ·simp at hst;simp[Builtin.clear_,run_underlying E.ty,hzv,hst]
 ·simp at hzl ⊢;omega
 ·simp at hzl ⊢;omega
 ·show List.take (n*sz) (_++_++_)=_;rw[Z6l _ _ _ _ (by rw[hzl];exact h1) (by omega),htake]
theorem Zcq (hS:St K w0 v0 σ ℓ v a w) {t:TypeId} {x:Operand} {p r:Value} {w':World} (e:ev σ x=some p) (h:(Builtin.clear_ #[t] ty #[p]).run P w = .ok r w') :
  (execOp a.eval ⟨d,.call ⟨.builtin .clear,#[x],#[t]⟩,ty,pos,aft,g⟩).run P w = .ok (.value r) w':=by
 simp[execOp,resolve,invoke,builtin,hS.eval e,h]
theorem ZMt {ops:Array Oper} {Q:Exit→Act→World→Prop} {rest:List Oper} {o:Oper} {x:Value} {w':World} (hw:Region.wanted o (yielded ops a.tmps)=true) (hd:o.dst=none) (hrun:(execOp a.eval o).run P w = .ok (.value x) w') (h:wpList P ops Q rest a w'):wpList P ops Q (o :: rest) a w :=
 ZYc hw (Zdf hrun (by rw[hd];exact h))
theorem St.narrow (h:St K w0 v0 σ ℓ v a w) {i b n m cap sz:Nat} {T:TypeId} {cs:List Value} (hi:ℓ[i]? = some (.own (some b) T sz n cap cs)) (hm:m≤n):St K w0 v0 σ (ℓ.set i (.own (some b) T sz m cap (cs.take (m*sz)))) v a w:=by
 obtain⟨hcl,cur,hg,hnc,hcx,hcs,htake⟩:=(h.loc _ (mG hi)).1;have h1:m*sz≤n*sz:=mR _ hm;refine h.setSame hi rfl ⟨?_,cur,hg,by omega,hcx,hcs,?_⟩
 ·rw[List.length_take];omega
 ·rw[← htake,List.take_take,Nat.min_eq_left h1]
end
theorem Ziv {cs zc:List Value} {sz i n:Nat} (hc:cs.length=n*sz) (hi:i<n) (hz:zc.length=sz) :
  (((cs.take (i*sz)++cs.drop ((i+1)*sz)++cs.drop (i*sz+(cs.drop ((i+1)*sz)).length)).take ((n-1)*sz)++zc++(cs.take (i*sz)++cs.drop ((i+1)*sz)++cs.drop (i*sz+(cs.drop ((i+1)*sz)).length)).drop ((n-1)*sz+zc.length)).take ((n-1)*sz))=cs.take (i*sz)++cs.drop ((i+1)*sz):=by
 have h1:i*sz≤n*sz:=mR _ (by omega);have h2:(i+1)*sz≤n*sz:=mR _ (by omega);have h3:(i+1)*sz=i*sz+sz:=by rw[Nat.add_mul,Nat.one_mul]
 have h4:(n-1)*sz=n*sz-sz:=by rw[Nat.sub_mul,Nat.one_mul]
 have hl:(cs.take (i*sz)++cs.drop ((i+1)*sz)).length=(n-1)*sz:=by
  rw[lA,List.length_take,List.length_drop];omega
 rw[aAq (List.take _ _) zc,List.take_append_of_le_length (by rw[List.length_take,lA,hl];omega),List.take_take,Nat.min_self,List.take_append_of_le_length (by rw[hl];omega),List.take_of_length_le (by rw[hl];omega)]
end Go.Eng
namespace Go.Eng
open Go.Proofs Go.RowKit
theorem Zlr:Elem Tryz.prog 69 3 ((Zd .i64)).n 8 (Value.int IntKind.i64 0):=⟨Tryz.underlying69,by kernel_rfl,rfl,by decide⟩
theorem ZXg:Z2b Tryz.prog 69 3 ((Zd .i64)).n:=⟨λ_=>by kernel_rfl,λ_=>by kernel_rfl⟩
theorem ZDz:Tryz.prog.follows .mixedOrders=true:=by kernel_rfl
noncomputable def Z4o:FuncId×ConD:=(166,⟨3,.int .i64,λl i j=>ZCd l i j⟩)
theorem ZHx:Zwh Tryz.prog Z4o.1 Z4o.2:=λw v ob n cap cs l i0 j0 z hv hh hnv hA hn hi hj hz=>by
 have hz:ZCd (show List Int from l) i0 j0=some z:=hz
 obtain⟨i,rfl,rfl,hin,rfl⟩:=ZUs hz
 have hA:((Zd .i64)).rels v cs (show List Int from l):=hA
 have hin:i<n:=by rw[hn];exact hin
 have hcs:cs.length=n*((Zd .i64)).n:=by rw[hn];exact Zxd hA
 refine⟨λ_ _=>by kernel_rfl,?_⟩
 refine Zjt (K:=33) (args:=[.slice (mkA ob) n cap,.int .i64 (i:Int),.int .i64 ((i+1:Nat):Int)]) hv hh hnv Tryz.func166 rfl rfl zl λfa hS=>?_
 obtain⟨b,rfl⟩:=ZAd hS (j:=0) rfl (by omega)
 obtain⟨_,cur,hg,hnc,hcx,hcu,htk⟩:=(hS.loc _ (mG (i:=0) rfl)).1
 unfold maxLen at hcx
 refine sr ?_
 refine mw hS rfl λfa hS=>?_
 refine oe ?_
 refine sr ?_
 refine mv hS rfl λfa hS=>?_
 refine mv hS rfl λfa hS=>?_
 refine mv hS rfl λfa hS=>?_
 refine mv hS rfl λfa hS=>?_
 refine ov hS rfl (Zjc hS rfl rfl ZXg) λfa hS=>?_
 have h3 := @Zlw _ _ _ _ _ _ _ _ _ (some 13) 69 "" #[] none hS 69 3 ((Zd .i64)).n b n cap i (i + 1) n (.tmp 8) (.tmp 9) (.tmp 10) (.tmp 12) .i64 .i64 .i64 ZXg rfl rfl rfl rfl (by omega) (by omega) hnc
 obtain⟨y3,h3⟩:=h3
 refine ov hS rfl h3 λfa hS=>?_
 refine oe ?_
 refine wp_seq_k λN1 hN1=>?_
 refine sr ?_
 refine mv hS rfl λfa hS=>?_
 refine mv hS rfl λfa hS=>?_
 refine ov hS rfl (Zu hS rfl rfl ZWg) λfa hS=>?_
 refine oe ?_
 refine Z4 hS rfl (by simp only[beq_eq_false_iff_ne,ne_eq];omega) ?_
 refine wp_skip ?_
 refine Zi (hN1 _ _ ?_)
 refine sr ?_
 refine mv hS rfl λfa hS=>?_
 refine ov hS rfl (Zjc hS rfl rfl ZXg) λfa hS=>?_
 refine mw hS rfl λfa hS=>?_
 refine oe ?_
 refine wp_seq_k λN2 hN2=>?_
 refine Z6f (fl:=#[true,true,true,true,true,true,false,false]) ZDz (by kernel_rfl) hS ?_
 intro ops hops hF wo hS
 refine rf hops hF 0 rfl (by kernel_rfl) rfl hS (ZK hS rfl) λfa hS=>?_
 refine rf hops hF 1 rfl (by kernel_rfl) rfl hS (ZK hS rfl) λfa hS=>?_
 refine rf hops hF 2 rfl (by kernel_rfl) rfl hS (Zqp hS ZXg rfl rfl (by omega) (by omega)) λfa hS=>?_
 refine rf hops hF 3 rfl (by kernel_rfl) rfl hS (ZK hS rfl) λfa hS=>?_
 refine rf hops hF 4 rfl (by kernel_rfl) rfl hS (ZK hS rfl) λfa hS=>?_
 obtain⟨ad,had,hsrc⟩:∃ ad:Addr,(if cap=i+1 then mkA (some b) else (mkA (some b)).map (·.add ((i+1)*((Zd .i64)).n)))=some ad∧∀ j u,(cs.drop ((i+1)*((Zd .i64)).n))[j]? = some u→wo.cell? (ad.add j)=some u:=by
  by_cases h:cap=i+1
  ·refine⟨⟨b,0,none⟩,by rw[iP h];rfl,λj u hu=>?_⟩;have:cs.drop ((i+1)*((Zd .i64)).n)=[]:=List.drop_eq_nil_of_le (by rw[hcs];exact mR _ (by omega));rw[this]at hu;simp at hu
  ·refine⟨(⟨b,0,none⟩:Addr).add ((i+1)*((Zd .i64)).n),by rw[iN h];rfl,λj u hu=>?_⟩;have:=Zki hS (j:=0) rfl ((i+1)*((Zd .i64)).n+j) u (by rw[List.getElem?_drop]at hu;exact hu);rw[show ((⟨b,0,none⟩:Addr).add ((i+1)*((Zd .i64)).n)).add j=(⟨b,0,none⟩:Addr).add ((i+1)*((Zd .i64)).n+j) by simp only[Z3a,Nat.add_assoc]];exact this
 refine rf hops hF 5 rfl (by kernel_rfl) rfl hS (Zzr hS ZXg rfl rfl (by omega)) λfa hS=>?_;rw[had]at hS;have hdl:(cs.drop ((i+1)*((Zd .i64)).n)).length=(n-(i+1))*((Zd .i64)).n:=by rw[List.length_drop,hcs,Nat.sub_mul]
 obtain⟨wo',hr,hS'⟩:=Zju (t:=69) (ty:=69) Zlr hS (i:=0) rfl (q:=i) (m:=n-(i+1)) (c:=cap-(i+1)) (ad:=ad) (news:=cs.drop ((i+1)*((Zd .i64)).n)) hdl hsrc (by rw[List.all_eq_true];intro y hy;exact List.all_eq_true.1 (Z5h hA) y (List.mem_of_mem_drop hy)) (by omega);rw[show i+(n-(i+1))=n-1 by omega]at hr;refine ZRf hops hF 6 (by kernel_rfl) ?_;refine ZOm [2,5,0,1,3,4] [] hops rfl (by kernel_rfl) wn rfl zl (Zwr hS rfl rfl hr) hS' λfa hS=>?_;refine⟨Z8a,?_⟩;refine ZRf hops hF 7 (by kernel_rfl) ?_;refine nv [0,1,2,3,4,5,6] [] hops rfl (by kernel_rfl) rfl hS (Z2c hS rfl) λfa hS=>?_;refine⟨Z8a,?_⟩;refine Znk hops hF (by kernel_rfl) ?_;refine Zi (hN2 _ _ ?_);refine sr ?_;refine mv hS rfl λfa hS=>?_;refine mv hS rfl λfa hS=>?_;refine ov hS rfl (Zjc hS rfl rfl ZXg) λfa hS=>?_;refine mv hS rfl λfa hS=>?_;refine ov hS rfl (ZWs hS ZXg rfl rfl rfl (by omega) (by omega) (by omega)) λfa hS=>?_;obtain⟨wo2,zc,hzl,hr,hS'⟩:=Zos (t:=69) (ty:=69) Zlr hS (i:=0) rfl (p:=n-1) (c:=cap-(n-1)) (by omega) (List.all_eq_true.1 (by kernel_rfl));have hn1:n-(n-1)=1:=by omega
 rw[hn1]at hS hS';refine ZMt wn rfl (Zcq hS rfl (hr _)) ?_;refine oe ?_;have hS:=hS'.narrow (i:=0) rfl (m:=n-1) (by omega);refine sr ?_;refine mv hS rfl λfa hS=>?_;refine mw hS rfl λfa hS=>?_;refine oe ?_;refine wp_ret ?_;refine Zew hS (i:=0) rfl (Z0a rfl (ZP hS rfl)) ?_ (show n-1=(List.take i l++List.drop (i+1) l).length by rw[lA,List.length_take,List.length_drop,← hn];omega);rw[Ziv hcs hin hzl];exact ZIc (Zig i (Z0 hS.vst.le hA)) (ZGf (i+1) (Z0 hS.vst.le hA))
theorem Z0p:Elem Tryz.prog 29 38 (ZW).n 56 (Value.agg #[Value.bool false,Value.slice none 0 0,Value.slice none 0 0]):=⟨Tryz.underlying29,by kernel_rfl,rfl,by decide⟩
theorem Zvg:Z2b Tryz.prog 29 38 (ZW).n:=⟨λ_=>by kernel_rfl,λ_=>by kernel_rfl⟩
theorem ZMx:Tryz.prog.follows .mixedOrders=true:=by kernel_rfl
noncomputable def Z5m:FuncId×ConD:=(167,⟨38,.leaf 3,λl i j=>ZCd l i j⟩)
theorem Zlx:Zwh Tryz.prog Z5m.1 Z5m.2:=λw v ob n cap cs l i0 j0 z hv hh hnv hA hn hi hj hz=>by
 have hz:ZCd (show List Rat from l) i0 j0=some z:=hz
 obtain⟨i,rfl,rfl,hin,rfl⟩:=ZUs hz
 have hA:(ZW).rels v cs (show List Rat from l):=hA
 have hin:i<n:=by rw[hn];exact hin
 have hcs:cs.length=n*(ZW).n:=by rw[hn];exact Zxd hA
 refine⟨λ_ _=>by kernel_rfl,?_⟩
 refine Zjt (K:=33) (args:=[.slice (mkA ob) n cap,.int .i64 (i:Int),.int .i64 ((i+1:Nat):Int)]) hv hh hnv Tryz.func167 rfl rfl zl λfa hS=>?_
 obtain⟨b,rfl⟩:=ZAd hS (j:=0) rfl (by omega)
 obtain⟨_,cur,hg,hnc,hcx,hcu,htk⟩:=(hS.loc _ (mG (i:=0) rfl)).1
 unfold maxLen at hcx
 refine sr ?_
 refine mw hS rfl λfa hS=>?_
 refine oe ?_
 refine sr ?_
 refine mv hS rfl λfa hS=>?_
 refine mv hS rfl λfa hS=>?_
 refine mv hS rfl λfa hS=>?_
 refine mv hS rfl λfa hS=>?_
 refine ov hS rfl (Zjc hS rfl rfl Zvg) λfa hS=>?_
 have h3 := @Zlw _ _ _ _ _ _ _ _ _ (some 13) 29 "" #[] none hS 29 38 (ZW).n b n cap i (i + 1) n (.tmp 8) (.tmp 9) (.tmp 10) (.tmp 12) .i64 .i64 .i64 Zvg rfl rfl rfl rfl (by omega) (by omega) hnc
 obtain⟨y3,h3⟩:=h3
 refine ov hS rfl h3 λfa hS=>?_
 refine oe ?_
 refine wp_seq_k λN1 hN1=>?_
 refine sr ?_
 refine mv hS rfl λfa hS=>?_
 refine mv hS rfl λfa hS=>?_
 refine ov hS rfl (Zu hS rfl rfl ZWg) λfa hS=>?_
 refine oe ?_
 refine Z4 hS rfl (by simp only[beq_eq_false_iff_ne,ne_eq];omega) ?_
 refine wp_skip ?_
 refine Zi (hN1 _ _ ?_)
 refine sr ?_
 refine mv hS rfl λfa hS=>?_
 refine ov hS rfl (Zjc hS rfl rfl Zvg) λfa hS=>?_
 refine mw hS rfl λfa hS=>?_
 refine oe ?_
 refine wp_seq_k λN2 hN2=>?_
 refine Z6f (fl:=#[true,true,true,true,true,true,false,false]) ZMx (by kernel_rfl) hS ?_
 intro ops hops hF wo hS
 refine rf hops hF 0 rfl (by kernel_rfl) rfl hS (ZK hS rfl) λfa hS=>?_
 refine rf hops hF 1 rfl (by kernel_rfl) rfl hS (ZK hS rfl) λfa hS=>?_
 refine rf hops hF 2 rfl (by kernel_rfl) rfl hS (Zqp hS Zvg rfl rfl (by omega) (by omega)) λfa hS=>?_
 refine rf hops hF 3 rfl (by kernel_rfl) rfl hS (ZK hS rfl) λfa hS=>?_
 refine rf hops hF 4 rfl (by kernel_rfl) rfl hS (ZK hS rfl) λfa hS=>?_
 obtain⟨ad,had,hsrc⟩:∃ ad:Addr,(if cap=i+1 then mkA (some b) else (mkA (some b)).map (·.add ((i+1)*(ZW).n)))=some ad∧∀ j u,(cs.drop ((i+1)*(ZW).n))[j]? = some u→wo.cell? (ad.add j)=some u:=by
  by_cases h:cap=i+1
  ·refine⟨⟨b,0,none⟩,by rw[iP h];rfl,λj u hu=>?_⟩;have:cs.drop ((i+1)*(ZW).n)=[]:=List.drop_eq_nil_of_le (by rw[hcs];exact mR _ (by omega));rw[this]at hu;simp at hu
  ·refine⟨(⟨b,0,none⟩:Addr).add ((i+1)*(ZW).n),by rw[iN h];rfl,λj u hu=>?_⟩;have:=Zki hS (j:=0) rfl ((i+1)*(ZW).n+j) u (by rw[List.getElem?_drop]at hu;exact hu);rw[show ((⟨b,0,none⟩:Addr).add ((i+1)*(ZW).n)).add j=(⟨b,0,none⟩:Addr).add ((i+1)*(ZW).n+j) by simp only[Z3a,Nat.add_assoc]];exact this
 refine rf hops hF 5 rfl (by kernel_rfl) rfl hS (Zzr hS Zvg rfl rfl (by omega)) λfa hS=>?_;rw[had]at hS;have hdl:(cs.drop ((i+1)*(ZW).n)).length=(n-(i+1))*(ZW).n:=by rw[List.length_drop,hcs,Nat.sub_mul]
 obtain⟨wo',hr,hS'⟩:=Zju (t:=29) (ty:=29) Z0p hS (i:=0) rfl (q:=i) (m:=n-(i+1)) (c:=cap-(i+1)) (ad:=ad) (news:=cs.drop ((i+1)*(ZW).n)) hdl hsrc (by rw[List.all_eq_true];intro y hy;exact List.all_eq_true.1 (Z5h hA) y (List.mem_of_mem_drop hy)) (by omega);rw[show i+(n-(i+1))=n-1 by omega]at hr;refine ZRf hops hF 6 (by kernel_rfl) ?_;refine ZOm [2,5,0,1,3,4] [] hops rfl (by kernel_rfl) wn rfl zl (Zwr hS rfl rfl hr) hS' λfa hS=>?_;refine⟨Z8a,?_⟩;refine ZRf hops hF 7 (by kernel_rfl) ?_;refine nv [0,1,2,3,4,5,6] [] hops rfl (by kernel_rfl) rfl hS (Z2c hS rfl) λfa hS=>?_;refine⟨Z8a,?_⟩;refine Znk hops hF (by kernel_rfl) ?_;refine Zi (hN2 _ _ ?_);refine sr ?_;refine mv hS rfl λfa hS=>?_;refine mv hS rfl λfa hS=>?_;refine ov hS rfl (Zjc hS rfl rfl Zvg) λfa hS=>?_;refine mv hS rfl λfa hS=>?_;refine ov hS rfl (ZWs hS Zvg rfl rfl rfl (by omega) (by omega) (by omega)) λfa hS=>?_;obtain⟨wo2,zc,hzl,hr,hS'⟩:=Zos (t:=29) (ty:=29) Z0p hS (i:=0) rfl (p:=n-1) (c:=cap-(n-1)) (by omega) (List.all_eq_true.1 (by kernel_rfl));have hn1:n-(n-1)=1:=by omega
 rw[hn1]at hS hS';refine ZMt wn rfl (Zcq hS rfl (hr _)) ?_;refine oe ?_;have hS:=hS'.narrow (i:=0) rfl (m:=n-1) (by omega);refine sr ?_;refine mv hS rfl λfa hS=>?_;refine mw hS rfl λfa hS=>?_;refine oe ?_;refine wp_ret ?_;refine Zew hS (i:=0) rfl (Z0a rfl (ZP hS rfl)) ?_ (show n-1=(List.take i l++List.drop (i+1) l).length by rw[lA,List.length_take,List.length_drop,← hn];omega);rw[Ziv hcs hin hzl];exact ZIc (Zig i (Z0 hS.vst.le hA)) (ZGf (i+1) (Z0 hS.vst.le hA))
set_option maxHeartbeats 4000000
noncomputable def ZRt:FuncId×ConB:=(140,⟨222,(.agg (.cons (.mat 29 38 (.leaf 3)) (.cons (.own 38 (.leaf 3)) (.cons (.own 38 (.leaf 3)) (.cons (.dat (.leaf 3)) (.cons (.own 3 (.int .i64)) (.one (.own 3 (.int .i64))))))))),[.pair (.slice (.slice (.leaf 3))) (.pair (.slice (.leaf 3)) (.slice (.leaf 3)))],[.slice (.leaf 3),.bool],λz x=>Z0k z x⟩)
theorem Zvx : KB ZRt := Z2g (C := cf1 [Zri, ZEg, ZOe, ZSg, ZUc, ZKf, ZLg] [100182] [ZAh] [((38, "Add"), 42), ((38, "Cmp"), 19), ((38, "Mul"), 18), ((38, "Sign"), 45), ((38, "Sub"), 54), ((38, "Zero"), 17)] [] [ZOo, Z0u, ZNo] [Z4o, Z5m]) (.n (.n (.n (.two (.n (.f (.l [0, 3, 6, 7, 8, 34, 35] [] [.s 9 (.dat (.int .i64)), .s 36 (.dat (.int .i64))] 0 [0, 3, 6, 7, 8] [] [.s 9 (.dat (.int .i64))] (.f (.n (.n (.f (.f (.n (.two (.j [0, 3, 6, 7, 8, 9, 10, 34, 35, 36] [] [.s 61 (.dat .bool)] .no) (.j [0, 3, 6, 7, 8, 34, 35, 36] [] [.s 9 (.dat (.int .i64))] .no))))))))))) (.n (.two (.n (.f (.l [0, 3, 6, 7, 8, 9, 70] [] [.s 71 (.dat (.int .i64)), .l (.sl 69) (.mat 29 38 (.leaf 3))] 2 [0, 3, 6, 7, 8, 9] [] [.l (.sl 69) (.mat 29 38 (.leaf 3))] .no))) (.n (.n (.n (.n (.n (.two (.n (.n (.j [0, 3, 8] [.fld (.sl 0) 0, .fld (.sl 0) 1, .fld (.sl 0) 2, .fld (.sl 0) 6, .fld (.sl 0) 7] [.l (.sl 0) (.box 222 (.agg (.cons (.mat 29 38 (.leaf 3)) (.cons (.own 38 (.leaf 3)) (.cons (.own 38 (.leaf 3)) (.cons (.dat (.leaf 3)) (.cons (.own 3 (.int .i64)) (.one (.own 3 (.int .i64))))))))))] .no))) (.n (.n (.two (.n (.f (.l [0, 3, 14, 167] [] [.s 168 (.dat (.int .i64)), .l (.sl 166) (.mat 29 38 (.leaf 3))] 4 [0, 3] [] [.l (.sl 166) (.mat 29 38 (.leaf 3))] .no))) (.n (.f (.n (.f (.l [0, 203, 204] [.fld (.sl 0) 0, .fld (.sl 0) 1, .fld (.sl 0) 6, .fld (.sl 0) 7, .fld (.sl 0) 2] [.s 205 (.dat (.int .i64)), .l (.sl 0) (.box 222 (.agg (.cons (.mat 29 38 (.leaf 3)) (.cons (.own 38 (.leaf 3)) (.cons (.own 38 (.leaf 3)) (.cons (.dat (.leaf 3)) (.cons (.own 3 (.int .i64)) (.one (.own 3 (.int .i64))))))))))] 6 [] [.fld (.sl 0) 0, .fld (.sl 0) 1, .fld (.sl 0) 6, .fld (.sl 0) 7, .fld (.sl 0) 2] [.l (.sl 0) (.box 222 (.agg (.cons (.mat 29 38 (.leaf 3)) (.cons (.own 38 (.leaf 3)) (.cons (.own 38 (.leaf 3)) (.cons (.dat (.leaf 3)) (.cons (.own 3 (.int .i64)) (.one (.own 3 (.int .i64))))))))))] (.f (.n (.n (.f (.j [0, 203, 204, 205] [.fld (.sl 0) 0, .fld (.sl 0) 1, .fld (.sl 0) 2, .fld (.sl 0) 6, .fld (.sl 0) 7] [.l (.sl 0) (.box 222 (.agg (.cons (.mat 29 38 (.leaf 3)) (.cons (.own 38 (.leaf 3)) (.cons (.own 38 (.leaf 3)) (.cons (.dat (.leaf 3)) (.cons (.own 3 (.int .i64)) (.one (.own 3 (.int .i64))))))))))] (.f (.n (.n (.n (.n (.n (.f (.l [0, 17, 203, 204, 205, 265, 266] [] [.s 267 (.dat (.int .i64)), .l (.fld (.sl 0) 2) (.own 38 (.leaf 3))] 8 [0, 203, 204, 205] [] [.l (.fld (.sl 0) 2) (.own 38 (.leaf 3))] .no))))))))))))))))))))))))))))))))) Tryz.func140 [(108, Tryz.f108, .no), (161, Tryz.f161, .r [] [] [.s 1000 (.dat (.int .i64))] (.n (.f (.n (.f (.cut ⟨⟨[0, 1, 7], [], [.s 8 (.dat (.int .i64))]⟩, [(.exit 0, ⟨[], [], []⟩), (.ret, ⟨[], [], [.s 1000 (.dat (.int .i64))]⟩)]⟩ .no)))))), (164, Tryz.f164, .r [] [] [.s 1000 (.dat (.int .i64))] (.n (.f (.n (.f (.cut ⟨⟨[0, 1, 7], [], [.s 8 (.dat (.int .i64))]⟩, [(.exit 0, ⟨[], [], []⟩), (.ret, ⟨[], [], [.s 1000 (.dat (.int .i64))]⟩)]⟩ .no)))))), (165, Tryz.f165, .no)] (λ_ _ => by kernel_rfl) ⟨ZQl, Z6g, ZQf, Zrh, Zed, Zsg, Zji, tr⟩ ⟨Ztl, tr⟩ ⟨ZHr, Zuq, ZYr, ZDl, ZRr, Zbv, tr⟩ ⟨⟨Tryz.func108, λ_ _ => by kernel_rfl⟩, ⟨Tryz.func161, λ_ _ => by kernel_rfl⟩, ⟨Tryz.func164, λ_ _ => by kernel_rfl⟩, ⟨Tryz.func165, λ_ _ => by kernel_rfl⟩, tr⟩ tr ⟨Zbs, ZFy, ZNv, tr⟩ ⟨ZHx, Zlx, tr⟩
noncomputable def ZVv:FuncId×Con:=(110,⟨[.pair (.slice (.slice (.leaf 3))) (.pair (.slice (.leaf 3)) (.slice (.leaf 3)))],[.pair (.int .i64) (.pair (.leaf 3) (.pair (.slice (.leaf 3)) (.pair (.slice (.leaf 3)) (.slice (.leaf 3)))))],λp=>Zej p⟩)
theorem ZxA : KQ ZVv := Zl (ZM (C := cf1 [Zff, ZLg, ZDv, ZJv] [] [ZTi, ZAh] [((38, "Neg"), 81)] [Zsr] [ZRt, ZOo] []) (.n (.n (.n (.n (.n (.two (.j [2, 3, 4, 6] [] [.s 5 (.dat (.ptr (.pair (.slice (.slice (.leaf 3))) (.pair (.slice (.leaf 3)) (.pair (.slice (.leaf 3)) (.pair (.leaf 3) (.pair (.slice (.int .i64)) (.slice (.int .i64))))))))), .s 9 (.dat (.int .i64))] .no) (.n (.n (.two (.n (.n (.j [2, 3, 5, 6, 9, 10] [] [.l (.sl 10) (.own 38 (.leaf 3))] .no))) (.f (.n (.f (.l [2, 3, 5, 6, 9, 10, 69, 70] [] [.s 71 (.dat (.int .i64)), .l (.sl 10) (.own 38 (.leaf 3))] 0 [2, 3, 5, 6, 10] [] [.l (.sl 10) (.own 38 (.leaf 3))] (.f (.n (.n (.f (.f (.n (.n (.j [2, 3, 5, 6, 9, 10, 69, 70, 71] [] [.l (.sl 10) (.own 38 (.leaf 3))] .no))))))))))))))))))))) Tryz.func110 [(108, Tryz.f108, .no), (139, Tryz.f139, .n (.n (.two (.n (.f (.l [1, 3, 20] [.fld (.sl 3) 0, .fld (.sl 3) 1, .fld (.sl 3) 2] [.s 21 (.dat (.int .i64)), .l (.sl 3) (.box 222 (.agg (.cons (.mat 29 38 (.leaf 3)) (.cons (.own 38 (.leaf 3)) (.cons (.own 38 (.leaf 3)) (.cons (.dat (.leaf 3)) (.cons (.own 3 (.int .i64)) (.one (.own 3 (.int .i64))))))))))] 0 [1, 3] [.fld (.sl 3) 0, .fld (.sl 3) 1, .fld (.sl 3) 2] [.l (.sl 3) (.box 222 (.agg (.cons (.mat 29 38 (.leaf 3)) (.cons (.own 38 (.leaf 3)) (.cons (.own 38 (.leaf 3)) (.cons (.dat (.leaf 3)) (.cons (.own 3 (.int .i64)) (.one (.own 3 (.int .i64))))))))))] .no))) (.f (.n (.f (.l [1, 3, 37] [.fld (.sl 3) 0, .fld (.sl 3) 1, .fld (.sl 3) 2, .fld (.sl 3) 6, .fld (.sl 3) 7] [.s 38 (.dat (.int .i64)), .l (.sl 3) (.box 222 (.agg (.cons (.mat 29 38 (.leaf 3)) (.cons (.own 38 (.leaf 3)) (.cons (.own 38 (.leaf 3)) (.cons (.dat (.leaf 3)) (.cons (.own 3 (.int .i64)) (.one (.own 3 (.int .i64))))))))))] 2 [3] [.fld (.sl 3) 0, .fld (.sl 3) 1, .fld (.sl 3) 2, .fld (.sl 3) 6, .fld (.sl 3) 7] [.l (.sl 3) (.box 222 (.agg (.cons (.mat 29 38 (.leaf 3)) (.cons (.own 38 (.leaf 3)) (.cons (.own 38 (.leaf 3)) (.cons (.dat (.leaf 3)) (.cons (.own 3 (.int .i64)) (.one (.own 3 (.int .i64))))))))))] .no)))))))] (λ_ => by kernel_rfl) ⟨ZPf, Zji, Zyz, ZgA, tr⟩ ⟨Zxo, Ztl, tr⟩ ⟨ZNh, tr⟩ ⟨⟨Tryz.func108, λ_ _ => by kernel_rfl⟩, ⟨Tryz.func139, λ_ _ => by kernel_rfl⟩, tr⟩ ⟨ZPw, tr⟩ ⟨Zvx, Zbs, tr⟩)
noncomputable def Z2r:FuncId×Con:=(65,⟨[.slice (.slice (.leaf 3)),.slice (.leaf 3),.slice (.leaf 3)],[.pair (.leaf 3) (.pair (.slice (.leaf 3)) (.pair (.slice (.leaf 3)) (.slice (.leaf 3)))),.int .i64],λp=>Z3k p.1 p.2.1 p.2.2⟩)
theorem Zxz : KQ Z2r := Zl (ZM (C := cf0 [Zff, Zss, Z5p, Z9j, ZLg, ZVv] [] [ZTi, Zhu, ZKl] [((38, "Neg"), 81)]) (.n (.n (.n (.n (.n (.two (.n (.f (.l [0, 2, 6, 8, 9, 10, 40, 41] [.fld (.sl 10) 1, .fld (.sl 10) 2] [.s 42 (.dat (.int .i64)), .l (.sl 10) (.box 190 (.agg (.cons (.own 29 (.slice (.leaf 3))) (.cons (.own 38 (.leaf 3)) (.one (.own 38 (.leaf 3)))))))] 0 [0, 2, 6, 8, 9, 10] [.fld (.sl 10) 1, .fld (.sl 10) 2] [.l (.sl 10) (.box 190 (.agg (.cons (.own 29 (.slice (.leaf 3))) (.cons (.own 38 (.leaf 3)) (.one (.own 38 (.leaf 3)))))))] .no))) (.f (.n (.f (.l [2, 6, 8, 9, 10, 63, 64] [.fld (.sl 10) 0, .fld (.sl 10) 1, .fld (.sl 10) 2] [.s 65 (.dat (.int .i64)), .l (.sl 10) (.box 190 (.agg (.cons (.own 29 (.slice (.leaf 3))) (.cons (.own 38 (.leaf 3)) (.one (.own 38 (.leaf 3)))))))] 2 [6, 8, 9, 10] [.fld (.sl 10) 0, .fld (.sl 10) 1, .fld (.sl 10) 2] [.l (.sl 10) (.box 190 (.agg (.cons (.own 29 (.slice (.leaf 3))) (.cons (.own 38 (.leaf 3)) (.one (.own 38 (.leaf 3)))))))] .no)))))))))) Tryz.func65 [] (λ_ => by kernel_rfl) ⟨ZPf, ZpC, ZXy, ZXn, Zji, ZxA, tr⟩ ⟨Zxo, ZYx, ZYm, tr⟩ ⟨ZNh, tr⟩)
noncomputable def ZTp:FuncId×Con:=(31,⟨[.slice (.pair (.leaf 3) (.pair (.leaf 3) (.pair (.leaf 3) (.leaf 3)))),.slice (.leaf 3)],[.pair (.pair (.leaf 3) (.slice (.pair (.leaf 3) (.leaf 3)))) (.pair (.leaf 3) (.slice (.pair (.leaf 3) (.leaf 3)))),.int .i64],λp=>ZJd p.1 p.2⟩)
theorem Z2q:KQ ZTp:=Zl (ZM (C:=cf0 [Z4h,ZBp,Zwt,ZKf,Z2r] [] [] []) (.n (.n (.n (.two (.n (.f (.l [0,1,4,23,24] [] [.s 6 (.own 29 (.slice (.leaf 3))),.s 7 (.own 38 (.leaf 3)),.s 8 (.own 38 (.leaf 3)),.s 25 (.dat (.int .i64))] 0 [0,1,4] [] [.s 6 (.own 29 (.slice (.leaf 3))),.s 7 (.own 38 (.leaf 3)),.s 8 (.own 38 (.leaf 3))] (.f (.n (.n (.f (.f (.n (.n (.f (.n (.f (.l [0,1,4,6,7,8,10,23,24,25,33,34] [] [.s 11 (.own 38 (.leaf 3)),.s 12 (.own 38 (.leaf 3)),.s 35 (.dat (.int .i64))] 2 [0,1,4,6,7,8,10,23,24,25] [] [.s 11 (.own 38 (.leaf 3)),.s 12 (.own 38 (.leaf 3))] .no)))))))))))))) (.n (.n (.n (.two (.n (.f (.l [0,4,17,19,92,93] [] [.s 94 (.dat (.int .i64)),.l (.sl 19) (.box 44 (.agg (.cons (.agg (.cons (.dat (.leaf 3)) (.one (.own 76 (.pair (.leaf 3) (.leaf 3)))))) (.cons (.dat (.leaf 3)) (.one (.own 105 (.pair (.leaf 3) (.leaf 3))))))))] 4 [0,4,17,19] [] [.l (.sl 19) (.box 44 (.agg (.cons (.agg (.cons (.dat (.leaf 3)) (.one (.own 76 (.pair (.leaf 3) (.leaf 3)))))) (.cons (.dat (.leaf 3)) (.one (.own 105 (.pair (.leaf 3) (.leaf 3))))))))] .no))) (.n (.f (.n (.f (.l [4,17,19,121] [.fld (.sl 19) 3,.fld (.sl 19) 7] [.s 122 (.dat (.int .i64)),.l (.sl 19) (.box 44 (.agg (.cons (.dat (.pair (.leaf 3) (.slice (.pair (.leaf 3) (.leaf 3))))) (.cons (.dat (.leaf 3)) (.one (.own 105 (.pair (.leaf 3) (.leaf 3))))))))] 6 [4,19] [.fld (.sl 19) 3,.fld (.sl 19) 7] [.l (.sl 19) (.box 44 (.agg (.cons (.dat (.pair (.leaf 3) (.slice (.pair (.leaf 3) (.leaf 3))))) (.cons (.dat (.leaf 3)) (.one (.own 105 (.pair (.leaf 3) (.leaf 3))))))))] .no))))))))))))) Tryz.func31 [] (λ_=>by kernel_rfl) ⟨ZRi,Zkw,ZuA,Zsg,Zxz,tr⟩)
noncomputable def Z9n:FuncId×Con:=(56,⟨[.slice (.pair (.leaf 3) (.pair (.leaf 3) (.pair (.leaf 3) (.leaf 3)))),.slice (.pair (.leaf 3) (.pair (.leaf 3) (.pair (.leaf 3) (.leaf 3)))),.leaf 3],[.slice (.pair (.leaf 3) (.pair (.leaf 3) (.pair (.leaf 3) (.leaf 3))))],λp=>ZIe p.1 p.2.1 p.2.2⟩)
theorem Zmv:KQ Z9n:=Zl (ZM (C:=cf0 [ZEg] [] [] []) (.n (.n (.f (.n (.f (.l [5,13,14] [] [.s 7 (.own 58 (.pair (.leaf 3) (.pair (.leaf 3) (.pair (.leaf 3) (.leaf 3))))),.s 15 (.dat (.int .i64))] 0 [] [] [.s 7 (.own 58 (.pair (.leaf 3) (.pair (.leaf 3) (.pair (.leaf 3) (.leaf 3)))))] .no)))))) Tryz.func56 [] (λ_=>by kernel_rfl) ⟨Z6g,tr⟩)
noncomputable def Zop:FuncId×Con:=(48,⟨[.slice (.pair (.leaf 3) (.pair (.leaf 3) (.pair (.leaf 3) (.leaf 3)))),.slice (.pair (.leaf 3) (.pair (.leaf 3) (.pair (.leaf 3) (.leaf 3)))),.slice (.leaf 3),.slice (.leaf 3)],[.int .i64,.leaf 3,.int .i64],λp=>ZFf p.1 p.2.1 p.2.2.1 p.2.2.2⟩)
theorem Zut:KQ Zop:=Zl (ZM (C:=cf0 [ZOe,ZTp,Z9n] [] [] []) (.n (.n (.n (.f (.n (.f (.cut ⟨⟨[0,1,3,9,12,17,18],[],[.s 11 (.dat (.int .i64)),.s 19 (.dat (.int .i64)),.l (.sl 12) (.box 38 (.dat (.leaf 3)))]⟩,[(.exit 0,⟨[9,12],[],[.s 11 (.dat (.int .i64)),.l (.sl 12) (.box 38 (.dat (.leaf 3)))]⟩),(.ret,⟨[],[],[.s 1000 (.dat (.int .i64)),.s 1001 (.dat (.leaf 3)),.s 1002 (.dat (.int .i64))]⟩)]⟩ (.f (.n (.n (.f (.f (.n (.n (.n (.two (.j [0,1,3,9,11,12,13,15,17,18,19] [] [.s 45 (.dat .bool)] .no) (.j [0,1,3,9,12,17,18,19] [] [.s 11 (.dat (.int .i64)),.l (.sl 12) (.box 38 (.dat (.leaf 3)))] .no))))))))))))))))) Tryz.func48 [] (λ_=>by kernel_rfl) ⟨ZQf,Z2q,Zmv,tr⟩)
noncomputable def Z7r:FuncId×Con:=(15,⟨[.slice (.pair (.leaf 3) (.pair (.leaf 3) (.pair (.leaf 3) (.leaf 3)))),.slice (.pair (.leaf 3) (.pair (.leaf 3) (.pair (.leaf 3) (.leaf 3)))),.slice (.leaf 3),.slice (.leaf 3)],[.int .i64,.leaf 3,.int .i64],λp=>ZCk p.1 p.2.1 p.2.2.1 p.2.2.2⟩)
theorem ZWx:KQ Z7r:=Zl (ZM (C:=cf0 [Zjo,Zwm,ZXm,Zop] [200021] [] []) (.n (.f (.n (.f (.cut ⟨⟨[0,1,2,3,9,18],[],[.s 19 (.dat (.int .i64))]⟩,[(.exit 0,⟨[0,1,2,3,9],[],[]⟩),(.ret,⟨[],[],[.s 1000 (.dat (.int .i64)),.s 1001 (.dat (.leaf 3)),.s 1002 (.dat (.int .i64))]⟩)]⟩ (.f (.n (.n (.f (.f (.f (.j [0,1,2,3,9,18,19] [] [.s 12 (.dat (.slice (.pair (.leaf 3) (.pair (.leaf 3) (.pair (.leaf 3) (.leaf 3))))))] .no)))))))))))) Tryz.func15 [] (λ_=>by kernel_rfl) ⟨Zds,Znt,ZMv,Zut,tr⟩)
noncomputable def ZCr:FuncId×Con:=(20,⟨[.slice (.pair (.leaf 4) (.pair (.leaf 4) (.pair (.leaf 4) (.leaf 4)))),.leaf 4],[.slice (.pair (.leaf 4) (.pair (.leaf 4) (.pair (.leaf 4) (.leaf 4))))],λp=>ZPk p.1 p.2⟩)
theorem Zbz:KQ ZCr:=Zl (ZM (C:=cf0 [ZRj] [] [] []) (.n (.n (.f (.n (.f (.l [3,5] [] [.s 6 (.dat (.int .i64)),.l (.sl 5) (.own 93 (.pair (.leaf 4) (.pair (.leaf 4) (.pair (.leaf 4) (.leaf 4)))))] 0 [5] [] [.l (.sl 5) (.own 93 (.pair (.leaf 4) (.pair (.leaf 4) (.pair (.leaf 4) (.leaf 4)))))] .no)))))) Tryz.func20 [] (λ_=>by kernel_rfl) ⟨Zkk,tr⟩)
noncomputable def Zdw:FuncId×Con:=(21,⟨[.slice (.slice (.pair (.leaf 3) (.pair (.leaf 3) (.pair (.leaf 3) (.leaf 3))))),.slice (.leaf 3),.slice (.leaf 3)],[.slice (.int .i64),.pair (.pair (.leaf 3) (.slice (.pair (.leaf 3) (.leaf 3)))) (.pair (.leaf 3) (.slice (.pair (.leaf 3) (.leaf 3)))),.int .i64],λp=>Zxh p.1 p.2.1 p.2.2⟩)
theorem Z4x:KQ Zdw:=Zl (ZM (C:=cf0 [Zjo,Zwm,ZTp,ZXm,Zop,Z9n] [] [] []) (.n (.two (.f (.j [0,1,2,7] [] [.s 31 (.dat .bool)] .no)) (.n (.two (.n (.f (.cut ⟨⟨[0,1,2,7,33,34],[],[.s 9 (.dat (.int .i64)),.s 35 (.dat (.int .i64))]⟩,[(.exit 0,⟨[0,1,2,7],[],[.s 9 (.dat (.int .i64))]⟩),(.ret,⟨[],[],[.s 1000 (.dat (.slice (.int .i64))),.s 1001 (.agg (.cons (.agg (.cons (.dat (.leaf 3)) (.one (.dat (.slice (.pair (.leaf 3) (.leaf 3))))))) (.cons (.dat (.leaf 3)) (.one (.dat (.slice (.pair (.leaf 3) (.leaf 3)))))))),.s 1002 (.dat (.int .i64))]⟩)]⟩ .no))) (.n (.n (.n (.n (.f (.n (.f (.cut ⟨⟨[1,2,7,70,71],[],[.s 15 (.dat (.slice (.pair (.leaf 3) (.pair (.leaf 3) (.pair (.leaf 3) (.leaf 3)))))),.s 16 (.own 3 (.int .i64)),.s 72 (.dat (.int .i64))]⟩,[(.exit 2,⟨[2,7],[],[.s 15 (.dat (.slice (.pair (.leaf 3) (.pair (.leaf 3) (.pair (.leaf 3) (.leaf 3)))))),.s 16 (.own 3 (.int .i64))]⟩),(.ret,⟨[],[],[.s 1000 (.dat (.slice (.int .i64))),.s 1001 (.agg (.cons (.agg (.cons (.dat (.leaf 3)) (.one (.dat (.slice (.pair (.leaf 3) (.leaf 3))))))) (.cons (.dat (.leaf 3)) (.one (.dat (.slice (.pair (.leaf 3) (.leaf 3)))))))),.s 1002 (.dat (.int .i64))]⟩)]⟩ .no)))))))))))) Tryz.func21 [] (λ_=>by kernel_rfl) ⟨Zds,Znt,Z2q,ZMv,Zut,Zmv,tr⟩)
noncomputable def ZWt:FuncId×Con:=(10,⟨[.slice (.pair (.leaf 4) (.pair (.leaf 4) (.pair (.leaf 4) (.leaf 4))))],[.int .i64],λp=>ZBl p⟩)
theorem Zux:KQ ZWt:=Zl (ZM (C:=cf0 [ZBf] [] [] []) (.n (.two (.f (.j [0] [] [.s 11 (.dat .bool)] .no)) (.f (.n (.f (.cut ⟨⟨[0],[],[.s 3 (.dat (.int .i64))]⟩,[(.exit 0,⟨[],[],[]⟩),(.ret,⟨[],[],[.s 1000 (.dat (.int .i64))]⟩)]⟩ (.f (.n (.f (.f (.f (.j [0,3] [] [.s 51 (.dat .bool)] .no)))))))))))) Tryz.func10 [] (λ_=>by kernel_rfl) ⟨ZKg,tr⟩)
noncomputable def ZGq:FuncId×Con:=(11,⟨[.slice (.leaf 4)],[.int .i64],λp=>Zcl p⟩)
theorem ZHz:KQ ZGq:=Zl (ZM (C:=cf0 [ZBf,ZKh] [] [] []) (.n (.two (.f (.j [0] [] [.s 11 (.dat .bool)] .no)) (.f (.n (.f (.cut ⟨⟨[0],[],[.s 3 (.dat (.int .i64))]⟩,[(.exit 0,⟨[],[],[]⟩),(.ret,⟨[],[],[.s 1000 (.dat (.int .i64))]⟩)]⟩ (.f (.n (.f (.f (.n (.f (.j [0,3] [] [.s 38 (.dat .bool)] .no))))))))))))) Tryz.func11 [] (λ_=>by kernel_rfl) ⟨ZKg,ZFi,tr⟩)
noncomputable def Z8t:FuncId×Con:=(49,⟨[.slice (.leaf 4)],[.int .i64],λp=>Z7k p⟩)
theorem ZFz:KQ Z8t:=Zl (ZM (C:=cf0 [ZBf] [] [] []) (.n (.two (.f (.j [0] [] [.s 11 (.dat .bool)] .no)) (.f (.n (.f (.cut ⟨⟨[0],[],[.s 3 (.dat (.int .i64))]⟩,[(.exit 0,⟨[],[],[]⟩),(.ret,⟨[],[],[.s 1000 (.dat (.int .i64))]⟩)]⟩ .no)))))) Tryz.func49 [] (λ_=>by kernel_rfl) ⟨ZKg,tr⟩)
noncomputable def ZAt:FuncId×Con:=(22,⟨[.slice (.slice (.pair (.leaf 4) (.pair (.leaf 4) (.pair (.leaf 4) (.leaf 4))))),.slice (.leaf 4),.slice (.leaf 4)],[.int .i64],λp=>Znm p.1 p.2.1 p.2.2⟩)
theorem Zry:KQ ZAt:=Zl (ZM (C:=cf0 [ZWt,ZGq,Z8t] [] [] []) (.n (.two (.f (.j [0,1,2] [] [.s 18 (.dat .bool)] .no)) (.n (.f (.n (.f (.cut ⟨⟨[0,1,2],[],[.s 7 (.dat (.int .i64)),.s 8 (.dat (.int .i64))]⟩,[(.exit 0,⟨[1,2],[],[.s 7 (.dat (.int .i64))]⟩),(.ret,⟨[],[],[.s 1000 (.dat (.int .i64))]⟩)]⟩ .no))))))) Tryz.func22 [] (λ_=>by kernel_rfl) ⟨Zux,ZHz,ZFz,tr⟩)
noncomputable def Zyy:FuncId×Con:=(5,⟨[.slice (.slice (.pair (.pair (.int .i64) (.int .i64)) (.pair (.pair (.int .i64) (.int .i64)) (.pair (.pair (.int .i64) (.int .i64)) (.pair (.int .i64) (.int .i64)))))),.slice (.pair (.int .i64) (.int .i64)),.slice (.pair (.int .i64) (.int .i64))],[.bool],λp=>Zfl p.1 p.2.1 p.2.2⟩)
theorem ZgB:KR Zyy:=ZM (C:=cf0 [Zsv,Zkq,ZFu,Zdu,ZEv,Z7r,ZEg,ZCr,Zdw,ZAt] [] [] []) (.n (.two (.f (.j [0,1,2] [] [.s 41 (.dat .bool)] .no)) (.n (.two (.n (.f (.cut ⟨⟨[1,2,7,8,49,50],[],[.s 51 (.dat (.int .i64)),.l (.sl 7) (.own 25 (.slice (.pair (.leaf 3) (.pair (.leaf 3) (.pair (.leaf 3) (.leaf 3)))))),.l (.sl 8) (.own 26 (.slice (.pair (.leaf 4) (.pair (.leaf 4) (.pair (.leaf 4) (.leaf 4))))))]⟩,[(.exit 0,⟨[1,2,7,8],[],[.l (.sl 7) (.own 25 (.slice (.pair (.leaf 3) (.pair (.leaf 3) (.pair (.leaf 3) (.leaf 3)))))),.l (.sl 8) (.own 26 (.slice (.pair (.leaf 4) (.pair (.leaf 4) (.pair (.leaf 4) (.leaf 4))))))]⟩),(.ret,⟨[],[],[.s 1000 (.dat .bool)]⟩)]⟩ .no))) (.n (.n (.n (.two (.n (.n (.f (.f (.j [] [] [.s 6 (.dat .bool)] .no))))) (.two (.f (.j [7,8,13,14,15,16,17,18] [] [.s 127 (.dat .bool)] .no)) (.n (.two (.n (.f (.cut ⟨⟨[7,8,13,14,15,16,17,18],[],[.s 21 (.dat (.slice (.pair (.leaf 3) (.pair (.leaf 3) (.pair (.leaf 3) (.leaf 3)))))),.s 22 (.own 93 (.pair (.leaf 4) (.pair (.leaf 4) (.pair (.leaf 4) (.leaf 4))))),.s 23 (.dat (.int .i64))]⟩,[(.exit 2,⟨[16,18],[],[.s 22 (.own 93 (.pair (.leaf 4) (.pair (.leaf 4) (.pair (.leaf 4) (.leaf 4)))))]⟩),(.ret,⟨[],[],[.s 1000 (.dat .bool)]⟩)]⟩ (.f (.n (.f (.f (.n (.two (.f (.j [7,8,13,14,15,16,17,18,21,22,23,24] [] [.s 165 (.dat .bool)] .no)) (.f (.n (.f (.l [7,8,13,14,15,16,17,18,22,23,24,169,170] [] [.s 21 (.dat (.slice (.pair (.leaf 3) (.pair (.leaf 3) (.pair (.leaf 3) (.leaf 3)))))),.s 171 (.dat (.int .i64))] 4 [7,8,13,14,15,16,17,18,22,23,24] [] [.s 21 (.dat (.slice (.pair (.leaf 3) (.pair (.leaf 3) (.pair (.leaf 3) (.leaf 3))))))] .no))))))))))))) (.f (.j [] [] [.s 6 (.dat .bool)] .no))))))))))))) Tryz.func5 [] (λ_=>by kernel_rfl) ⟨ZHC,ZSx,ZJA,none4_k,ZJB,ZWx,Z6g,Zbz,Z4x,Zry,tr⟩
theorem Zty {w0:World} {v0:Zb} (hv:VIn v0 w0) {c0:List Value} {l:(List (List ((Int×Int)×(Int×Int)×(Int×Int)×(Int×Int))))} (p0:Rep.rel (ZA (ZA (ZB (ZB (Zd .i64) (Zd .i64)) (ZB (ZB (Zd .i64) (Zd .i64)) (ZB (ZB (Zd .i64) (Zd .i64)) (ZB (Zd .i64) (Zd .i64))))))) v0 c0 l) {c1:List Value} {rs:(List (Int×Int))} (p1:Rep.rel (ZA (ZB (Zd .i64) (Zd .i64))) v0 c1 rs) {c2:List Value} {tms:(List (Int×Int))} (p2:Rep.rel (ZA (ZB (Zd .i64) (Zd .i64))) v0 c2 tms) {z:Bool} (hm:Zfl l rs tms=some z):Ret Tryz.prog 5 #[(ZA (ZA (ZB (ZB (Zd .i64) (Zd .i64)) (ZB (ZB (Zd .i64) (Zd .i64)) (ZB (ZB (Zd .i64) (Zd .i64)) (ZB (Zd .i64) (Zd .i64))))))).val c0,(ZA (ZB (Zd .i64) (Zd .i64))).val c1,(ZA (ZB (Zd .i64) (Zd .i64))).val c2] w0 v0 (λy v'=>∃ r0,y=Zzb.val r0∧Zzb.rel v' r0 z):=(ZgB w0 v0 [(ZA (ZA (ZB (ZB (Zd .i64) (Zd .i64)) (ZB (ZB (Zd .i64) (Zd .i64)) (ZB (ZB (Zd .i64) (Zd .i64)) (ZB (Zd .i64) (Zd .i64))))))).val c0,(ZA (ZB (Zd .i64) (Zd .i64))).val c1,(ZA (ZB (Zd .i64) (Zd .i64))).val c2] (l,rs,tms) z hv ⟨c0,_,rfl,p0,c1,_,rfl,p1,c2,rfl,p2⟩ hm).2
end Go.Eng
