/- Lemmas towards the statement: the engine of the walks, the functions' models, laws and walks, part 2. Conditions: as each states. -/
import Derived.Deep.Slices
import Derived.Lib.Mul64
import Derived.OpenShut
import Derived.ProofKit
import Derived.Test.YtpjddkamahambaaGreatPfA
set_option linter.all false
set_option maxRecDepth 100000
namespace Go.Eng
open Go.RowKit
section
variable {P:Program} {K:Nat} {w0:Base} {v0:Zc} {σ σ':List (Nat×Value)} {ℓ:List Loc} {v:Zc} {a:Act} {w:World}
variable {ops:Array Oper} {Q:Exit→Act→World→Prop} {rest:List Oper} {ty ty':TypeId} {pos pos':String} {aft aft':Array Edge}
theorem mA {d:Nat} {x:Operand} {y:Value} (hS:St K w0 v0 σ ℓ v a w) (hc:(ev σ x,Nat.ble (d+1) K)=(some y,true))
  (h:∀ {a},St K w0 v0 ((d,y) :: σ) ℓ v a w→wpList P ops Q rest a w):wpList P ops Q (⟨some d,.move x,ty,pos,aft,none⟩ :: rest) a w:=mv hS hc fun _=>h
theorem mB {d:Nat} {x:Operand} {y:Value} (hS:St K w0 v0 σ ℓ v a w) (hc:(ev σ x,Nat.ble (d+1) K)=(some y,true))
  (h:∀ {a},St K w0 v0 ((d,y) :: σ) ℓ v a w→wpList P ops Q rest a w):wpList P ops Q (⟨some d,.assign x,ty,pos,aft,none⟩ :: rest) a w:=mw hS hc fun _=>h
theorem mC {d d':Nat} {x x':Operand} {y y':Value} (hS:St K w0 v0 σ ℓ v a w) (hc:(ev σ x,ev ((d,y) :: σ) x',Nat.ble (d+1) K,Nat.ble (d'+1) K)=(some y,some y',true,true))
  (h:∀ {a},St K w0 v0 ((d',y') :: (d,y) :: σ) ℓ v a w→wpList P ops Q rest a w):wpList P ops Q (⟨some d,.move x,ty,pos,aft,none⟩ :: ⟨some d',.move x',ty',pos',aft',none⟩ :: rest) a w:=by
 simp only [Prod.mk.injEq] at hc;exact mv hS (by rw [hc.1,hc.2.2.1]) fun _ h1=>mv h1 (by rw [hc.2.1,hc.2.2.2]) fun _=>h
theorem me {d:Nat} {x:Operand} {y:Value} {c:Code} (hS:St K w0 v0 σ ℓ v a w) (hc:(ev σ x,Nat.ble (d+1) K)=(some y,true))
  (h:∀ {a},St K w0 v0 ((d,y) :: σ) ℓ v a w→c.wp P Q a w):wpList P ops (Exit.then (c.wp P Q) Q) [⟨some d,.assign x,ty,pos,aft,none⟩] a w:=mw hS hc fun _ h1=>oe (h h1)
theorem oV {o:Oper} {d:Nat} {x:Value} (hS:St K w0 v0 σ ℓ v a w) (hc:(o.dst,o.guard,Nat.ble (d+1) K)=(some d,none,true)) (hrun:(execOp a.eval o).run P w = .ok (.value x) w)
  (h:∀ {a},St K w0 v0 ((d,x) :: σ) ℓ v a w→wpList P ops Q rest a w):wpList P ops Q (o :: rest) a w:=ov hS hc hrun fun _=>h
theorem ab {d:Nat} {op:BinOp} {t t':TypeId} {x y:Operand} {k k':IntKind} {p q:Int} {z:Value} (hS:St K w0 v0 σ ℓ v a w) (hc:(ev σ x,ev σ y,Nat.ble (d+1) K)=(some (.int k p),some (.int k' q),true))
  (hr:∀ w,(binOp op t (.int k p) (.int k' q)).run P w = .ok z w) (h:∀ {a},St K w0 v0 ((d,z) :: σ) ℓ v a w→wpList P ops Q rest a w):wpList P ops Q (⟨some d,.binOp op t x y t',ty,pos,aft,none⟩ :: rest) a w:=by
 simp only [Prod.mk.injEq] at hc;exact ov hS (by rw [hc.2.2]) (ZV hS hc.1 hc.2.1 hr) fun _=>h
theorem ap {d:Nat} {c x y:Operand} {z:Value} (hS:St K w0 v0 σ ℓ v a w) (b:Bool) (hc:(ev σ c,(if b then ev σ x else ev σ y),Nat.ble (d+1) K)=(some (.bool b),some z,true))
  (h:∀ {a},St K w0 v0 ((d,z) :: σ) ℓ v a w→wpList P ops Q rest a w):wpList P ops Q (⟨some d,.pick c x y,ty,pos,aft,none⟩ :: rest) a w:=by
 simp only [Prod.mk.injEq] at hc;exact ov hS (by rw [hc.2.2]) (Zta hS hc.1 hc.2.1) fun _=>h
theorem al {d:Nat} {t et:TypeId} {sz:Nat} {x:Operand} {q:Option Addr} {n m cap:Nat} {ats:Array TypeId} (hS:St K w0 v0 σ ℓ v a w) (hn:n=m) (ht:ZMb P t et sz) (hc:(ev σ x,ats[0]?,Nat.ble (d+1) K)=(some (.slice q n cap),some t,true))
  (h:∀ {a},St K w0 v0 ((d,.int .i64 m) :: σ) ℓ v a w→wpList P ops Q rest a w):wpList P ops Q (⟨some d,.call ⟨.builtin .len,#[x],ats⟩,ty,pos,aft,none⟩ :: rest) a w:=by
 simp only [Prod.mk.injEq] at hc;exact ov hS (by rw [hc.2.2]) (Z7a hS hn hc.1 hc.2.1 ht) fun _=>h
theorem ax {d i:Nat} {x:Operand} {vs:Array Value} {y:Value} (hS:St K w0 v0 σ ℓ v a w) (hc:(ev σ x,vs[i]?,Nat.ble (d+1) K)=(some (.tuple vs),some y,true))
  (h:∀ {a},St K w0 v0 ((d,y) :: σ) ℓ v a w→wpList P ops Q rest a w):wpList P ops Q (⟨some d,.extract x i,ty,pos,aft,none⟩ :: rest) a w:=by
 simp only [Prod.mk.injEq] at hc;exact ov hS (by rw [hc.2.2]) (Zna hS hc.1 hc.2.1) fun _=>h
theorem af {d f off b o:Nat} {s:TypeId} {x:Operand} (hS:St K w0 v0 σ ℓ v a w) (ht:Z3a P s f off) (hc:(ev σ x,Nat.ble (d+1) K)=(some (.pointer (some ⟨b,o,none⟩)),true))
  (h:∀ {a},St K w0 v0 ((d,.pointer (some ⟨b,o+off,none⟩)) :: σ) ℓ v a w→wpList P ops Q rest a w):wpList P ops Q (⟨some d,.fieldAddr s x f,ty,pos,aft,none⟩ :: rest) a w:=by
 simp only [Prod.mk.injEq] at hc;exact ov hS (by rw [hc.2]) (Zs hS hc.1 ht) fun _=>h
theorem ao {d n b off:Nat} {t T:TypeId} {x:Operand} {y:Value} {cs0:List Value} (hS:St K w0 v0 σ ℓ v a w) (ht:Sized P t n false) (i:Nat) (hc:(ev σ x,ℓ[i]?,(cs0.drop off).take 1,Nat.ble (d+1) K)=(some (.pointer (some ⟨b,off,none⟩)),some (.box b T cs0),[y],true))
  (h:∀ {a},St K w0 v0 ((d,y) :: σ) ℓ v a w→wpList P ops Q rest a w):wpList P ops Q (⟨some d,.load t x,ty,pos,aft,none⟩ :: rest) a w:=by
 simp only [Prod.mk.injEq] at hc;exact ov hS (by rw [hc.2.2.2]) (lo hS hc.1 ht i hc.2.1 hc.2.2.1) fun _=>h
theorem aq {d b off:Nat} {t T:TypeId} {o:Operand} {x y z:Value} {cs0:List Value} (hS:St K w0 v0 σ ℓ v a w) (ht:Sized P t 3 true) (i:Nat) (hc:(ev σ o,ℓ[i]?,(cs0.drop off).take 3,Nat.ble (d+1) K)=(some (.pointer (some ⟨b,off,none⟩)),some (.box b T cs0),[x,y,z],true))
  (h:∀ {a},St K w0 v0 ((d,.agg #[x,y,z]) :: σ) ℓ v a w→wpList P ops Q rest a w):wpList P ops Q (⟨some d,.load t o,ty,pos,aft,none⟩ :: rest) a w:=by
 simp only [Prod.mk.injEq] at hc;exact ov hS (by rw [hc.2.2.2]) (la3 hS hc.1 ht i hc.2.1 hc.2.2.1) fun _=>h
theorem nO {o:Oper} {d gi t:Nat} {want:Bool} (hS:St K w0 v0 σ ℓ v a w) (hc:(o.guard,(ops[gi]?).bind (·.dst),look σ t,o.dst,Nat.ble (t+1) K,Nat.ble (d+1) K)=(some (gi,want),some t,some (.bool !want),some d,true,true))
  (h:∀ {a},St K w0 v0 ((d,undef) :: σ) ℓ v a w→wpList P ops Q rest a w):wpList P ops Q (o :: rest) a w:=by
 simp only [Prod.mk.injEq] at hc;exact opn hS hc.1 hc.2.1 hc.2.2.1 hc.2.2.2.1 (fun _=>h) hc.2.2.2.2.1 hc.2.2.2.2.2
theorem yO {o:Oper} {d gi t:Nat} {x:Value} {want:Bool} (hS:St K w0 v0 σ ℓ v a w) (hc:(o.guard,(ops[gi]?).bind (·.dst),look σ t,o.dst,Nat.ble (t+1) K,Nat.ble (d+1) K)=(some (gi,want),some t,some (.bool want),some d,true,true)) (hrun:(execOp a.eval o).run P w = .ok (.value x) w)
  (h:∀ {a},St K w0 v0 ((d,x) :: σ) ℓ v a w→wpList P ops Q rest a w):wpList P ops Q (o :: rest) a w:=by
 simp only [Prod.mk.injEq] at hc;exact opy hS hc.1 hc.2.1 hc.2.2.1 hc.2.2.2.1 hrun (fun _=>h) hc.2.2.2.2.1 hc.2.2.2.2.2
theorem gF {l:List Oper} {fl E:Array Bool} {o:Oper} {d:Nat} {x:Value} (hops:ops=l.toArray) (hF:OkF ops fl) (f:Nat) (h3:(l[f]?,o.dst,o.guard,Nat.ble (d+1) K)=(some o,some d,none,true))
  (hS:St K w0 v0 σ ℓ v a w) (hrun:(execOp a.eval o).run P w = .ok (.value x) w) (h:∀ {a},St K w0 v0 ((d,x) :: σ) ℓ v a w→Rg P ops Q fl (E.setIfInBounds f true) a w)
  (hc:(fl.getD f false&&(Region.ready .any l.toArray E).contains f)=true:=by kernel_rfl):Rg P ops Q fl E a w:=by
 simp only [Prod.mk.injEq] at h3;exact rfa hops hF f h3.1 (by rw [h3.2.1,h3.2.2.1,h3.2.2.2]) hS hrun (fun _=>h) hc
theorem opd {d:Nat} {x:Operand} {f:FuncId} {xs:Array Operand} {ats:Array TypeId} {R:Value→Zc→Prop} (hS:St K w0 v0 σ ℓ v a w) (vals:List Value) (hf:ZX P f) (e:(ev σ x,xs.toList.map (ev σ))=(some (.func (.func f) #[] #[]),vals.map some)) (hc:Ret P f vals.toArray w v R)
  (h:∀ x v' a w,v.le v'→R x v'→St K w0 v0 ((d,x) :: σ) ℓ v' a w→wpList P ops Q rest a w) (hK:Nat.ble (d+1) K=true:=by rfl):wpList P ops Q (⟨some d,.call ⟨.value x,xs,ats⟩,ty,pos,aft,none⟩ :: rest) a w:=by
 simp only [Prod.mk.injEq] at e;exact opc hS rfl (Zy hS vals hf e.1 e.2) hc h rfl hK
end
end Go.Eng
namespace Go.Eng
open Go.RowKit Go.WideShapes Go.ChangeShapes
def ZZk (W:World):Zc:=fun b=>W.heap[b]?
theorem ZSp (W:World):VIn (ZZk W) W:=fun _ _ h=>h
def Z3b (P:Program) (t:TypeId) {α:Type} (A:Rep α):Prop:=∀ (H:Type) (enc:TypeId×Value→H) (W:World) (fuel:Nat) (cs:List Value) (x:DataW H×List MemPlace),
 DataW.trod enc P W 0 (fun _=>true) true fuel t cs=some x→∃ a,A.rel (ZZk W) cs a
theorem ZRn {P:Program} {t:TypeId} {k:IntKind} (ht:P.underlying t=some (.int k)):Z3b P t (Zd k):=by
 intro H enc W fuel cs x h
 cases fuel with
 | zero=>simp [DataW.trod] at h
 | succ n =>
  unfold DataW.trod at h;rw [ht] at h;split at h <;> simp_all;rename_i k2 z heq;obtain ⟨⟨rfl,hw⟩,_⟩:=h;refine ⟨z,rfl,?_⟩;simp only [Lit.wf,Bool.and_eq_true,decide_eq_true_eq] at hw;exact hw
theorem Z0q {P:Program} {t:TypeId} (ht:P.underlying t=some .bool):Z3b P t Zea:=by
 intro H enc W fuel cs x h
 cases fuel with
 | zero=>simp [DataW.trod] at h
 | succ n =>
  unfold DataW.trod at h;rw [ht] at h;split at h
  ·exact ⟨_,rfl⟩
  all_goals simp_all
theorem ZDm {P:Program} {t:TypeId} {f0 f1:Field} {α β:Type} {A:Rep α} {B:Rep β} (ht:P.underlying t=some (.struct #[f0,f1])) (hA:Z3b P f0.type A) (hB:Z3b P f1.type B)
  (o0:f0.offset=0) (c0:P.cellsOf f0.type=A.n) (o1:f1.offset=A.n) (c1:P.cellsOf f1.type=B.n) (ct:P.cellsOf t=A.n+B.n):Z3b P t (Zi A B):=by
 intro H enc W fuel cs x h;obtain ⟨y0,y1,n,_,hl,h0,h1⟩:=trod_struct2 ht h;rw [o0,c0,List.drop_zero] at h0;rw [o1,c1] at h1;obtain ⟨a,ha⟩:=hA _ _ _ _ _ _ h0;obtain ⟨b,hb⟩:=hB _ _ _ _ _ _ h1;rw [List.take_of_length_le (by rw [List.length_drop,hl,ct];omega)] at hb;exact ⟨(a,b),cs.take A.n,cs.drop A.n,(List.take_append_drop _ _).symm,ha,hb⟩
theorem Z4p {P:Program} {t e:TypeId} {α:Type} {A:Rep α} (ht:P.underlying t=some (.array 2 e)) (hA:Z3b P e A) (ce:P.cellsOf e=A.n) (ct:P.cellsOf t=A.n+A.n):Z3b P t (Zi A A):=by
 intro H enc W fuel cs x h;obtain ⟨xs,m,_,_,hl,hx,hf⟩:=DataW.trod_array ht h;have h0:=hf 0 (by omega);have h1:=hf 1 (by omega);rw [ce] at h0 h1;rw [List.getElem?_eq_getElem (by omega)] at h0 h1;rw [Nat.zero_mul,List.drop_zero] at h0;rw [Nat.one_mul] at h1;obtain ⟨a,ha⟩:=hA _ _ _ _ _ _ h0;obtain ⟨b,hb⟩:=hA _ _ _ _ _ _ h1;rw [List.take_of_length_le (by rw [List.length_drop,hl,ct];omega)] at hb;exact ⟨(a,b),cs.take A.n,cs.drop A.n,(List.take_append_drop _ _).symm,ha,hb⟩
theorem Zaq {W:World} {b o n:Nat} {c:Array Value} {T:TypeId} {fr:Nat×Nat} {cs:List Value} (hg:W.heap[b]? = some (.cells c T fr)) (h:W.cells? 0 ⟨b,o,none⟩ n=some cs):cs=(c.toList.drop o).take n:=by
 obtain ⟨_,hlen,hc⟩:=World.cells?_some h;apply List.ext_getElem?;intro j;by_cases hj:j<n
 ·have h1:=hc j (by omega);rw [Zhd] at h1;simp only [World.cell?,hg,Option.isSome_none,Bool.false_eq_true,if_false] at h1;rw [List.getElem?_take_of_lt hj,List.getElem?_drop]
  simpa using h1.symm
 ·rw [List.getElem?_eq_none (by omega),List.getElem?_take_eq_none (by omega)]
theorem ZFl {P:Program} {t e:TypeId} {α:Type} {A:Rep α} (ht:P.underlying t=some (.slice e)) (hA:Z3b P e A) (ce:P.cellsOf e=A.n) (hn:0<A.n):Z3b P t (Zz A):=by
 intro H enc W fuel cs x h;rcases Go.Deep.open_slice ht h with ⟨rfl,_⟩ | ⟨a,len,cap,m,n,D,Pl,rfl,_,hl,hm,hmm,_,hx⟩
 ·exact ⟨[],Z1e A _⟩
 ·rw [ce] at hx;have hlm:len≤m:=by rw [hmm];simp;omega
  by_cases h0:len=0
  ·subst h0;exact ⟨[],some a,cap,rfl,hl,hm,.inl rfl⟩
  ·obtain ⟨cs0,hc0,_⟩:=hx 0 (by omega);obtain ⟨_,hlen0,hcell0⟩:=World.cells?_some hc0;have h00:=hcell0 0 (by omega);rw [List.getElem?_eq_getElem (by omega)] at h00;have hspot:=World.cell?_spot h00;obtain ⟨b,off,spot⟩:=a;have hs:spot=none:=by simpa [Addr.add] using hspot
   subst hs;obtain ⟨c,T,fr,hg⟩:∃ c T fr,W.heap[b]? = some (.cells c T fr):=by
    rw [Zhd,Zhd] at h00;simp only [World.cell?] at h00;split at h00
    ·rename_i c T fr hg;exact ⟨c,T,fr,hg⟩
    ·cases h00
   have key:∀ k,k≤len→∃ l:List α,l.length=k∧A.rels (ZZk W) ((c.toList.drop off).take (k*A.n)) l:=by
    intro k
    induction k with
    | zero=>intro _;exact ⟨[],rfl,by rw [Nat.zero_mul,List.take_zero];exact Z0a⟩
    | succ k ih =>
     intro hk;obtain ⟨l,hll,hr⟩:=ih (by omega);obtain ⟨cs',hc',ht'⟩:=hx k (by omega);rw [Zhd] at hc';have e1:=Zaq hg hc';obtain ⟨y,hy⟩:=hA _ _ _ _ _ _ ht';refine ⟨l++[y],by simp [hll],?_⟩;have e2:(c.toList.drop off).take ((k+1)*A.n)=(c.toList.drop off).take (k*A.n)++cs':=by
      rw [e1,Nat.succ_mul,List.take_add,List.drop_drop]
     rw [e2];exact Zub hr ⟨cs',[],by simp,hy,Z0a⟩
   obtain ⟨l,hll,hr⟩:=key len (Nat.le_refl _);subst hll;exact ⟨l,some ⟨b,off,none⟩,cap,rfl,hl,hm,.inr ⟨b,off,c,T,fr,rfl,hg,hr⟩⟩
theorem val_agg {P:Program} {W:World} {base:Nat} {t:TypeId} {v:Value} {α:Type} {A:Rep α} (hA:A.agg=true) (ht:(∃ fs,P.underlying t=some (.struct fs)) ∨ ∃ n e,P.underlying t=some (.array n e)) (hv:Value.okWide P W .any base t v):v=A.val v.cells.toList:=by
 unfold Rep.val;rw [hA];unfold Value.okWide at hv;rcases ht with ⟨fs,ht⟩ | ⟨n,e,ht⟩ <;> (rw [ht] at hv;obtain ⟨cs,rfl,_⟩:=hv;rfl)
theorem ZJl {P:Program} {W:World} {base:Nat} {t e:TypeId} {v:Value} {α:Type} {A:Rep α} (hA:A.agg=false) (ht:P.underlying t=some (.slice e)) (hv:Value.okWide P W .any base t v):v=A.val v.cells.toList:=by
 unfold Rep.val;rw [hA];unfold Value.okWide at hv;rw [ht] at hv;simp only [Cell.okWide,ht] at hv
 cases v <;> first | rfl | (simp [Cell.ok,ht] at hv)
variable {H:Type} {enc:TypeId×Value→H} {P:Program}
theorem ZWn (hl:laidOutB P=true) {W W':World} (hb:Below W.heap.size W W') {sp:Nat→Bool}:∀ {ts:List TypeId} {vs:List Value} {ds:List (DataW H)} {ps:List MemPlace},(∀ t ∈ ts,P.readableRec t=true∧t<P.types.size) →
  DataW.TrodAll enc P W 0 (fun _=>true) true ts vs ds ps→(∀ x ∈ ps,x.block<W.heap.size∧sp x.block=true)→DataW.TrodAll enc P W' 0 sp true ts vs ds ps
 | [],[],[],ps,_,h,_=>h
 | t :: ts,v :: vs,d :: ds,ps,hr,h,hp=>by
  obtain ⟨p,q,h1,h2,rfl⟩:=h
  exact ⟨p,q,WideElems.Trod_stays hl (hr t (List.mem_cons_self ..)).1 (hr t (List.mem_cons_self ..)).2 h1 (fun x hx=>hb.same (hp x (List.mem_append_left _ hx)).1) (fun x hx=>(hp x (List.mem_append_left _ hx)).2),
   ZWn hl hb (fun t' ht'=>hr t' (List.mem_cons_of_mem _ ht')) h2 (fun x hx=>hp x (List.mem_append_right _ hx)),rfl⟩
theorem ZCs {f:Func} {s:ChangeSpec} {apart fresh handsOn again:Bool} {W W':World} {args:Array Value} {ds gs:List (DataW H)} {before:List MemPlace} {tb:TypeId}
  (hl:laidOutB P=true) (hr:∀ t ∈ f.params.toList,P.readableRec t=true∧t<P.types.size) (htb:P.underlying tb=some .bool) (hres:f.resultTypes = #[tb]) (hsv:s.vars=[]) (hsg:(s.fn H (ds++gs)).vars=[])
  (hs1:(s.fn H (ds++gs)).results=[.lit (.bool true)]) (hs2:(s.fn H (ds++gs)).args=ds)
  (hW:DataW.Whole enc P f.params.toList s.vars apart W args.toList ds gs before) (hb:Below W.heap.size W W'):s.post enc P f apart fresh handsOn again W args (.bool true) W':=by
 have hW':=hW;obtain ⟨p,q,hA,hV,rfl,hz,hn⟩:=hW;have hlt:∀ x ∈ p++q,x.block<W.heap.size:=fun x hx=>hW'.lt x hx;rw [hsv] at hV;obtain ⟨rfl,rfl⟩:=trodVars_none hV;have hold:∀ x ∈ p++[],(fun b=>decide (b<W.heap.size)) x.block=true:=fun x hx=>by simpa using hlt x hx
 have hargs:∀ sp:Nat→Bool,(∀ x ∈ p++[],sp x.block=true)→DataW.TrodAll enc P W' 0 sp true f.params.toList args.toList (s.fn H (ds++[])).args p:=fun sp hsp=>by
  rw [hs2];exact ZWn hl hb hr hA (fun x hx=>⟨hlt x (List.mem_append_left _ hx),hsp x (List.mem_append_left _ hx)⟩)
 have hvars:∀ sp:Nat→Bool,DataW.TrodVars enc P W' sp s.vars (s.fn H (ds++[])).vars []:=fun sp=>by rw [hsv,hsg];rfl
 have hresult:∀ (b:Nat) (sp:Nat→Bool) (hd:Bool),DataW.TrodAll enc P W' b sp hd f.resultTypes.toList ((Value.bool true).resultList f.resultTypes.size) (s.fn H (ds++[])).results []:=fun b sp hd=>by
  rw [hres,hs1];exact trodAll_mk1 (shut_bool htb _)
 have hok:∀ (j:Nat) (t:TypeId) (r:Value),f.resultTypes[j]? = some t→((Value.bool true).resultList f.resultTypes.size)[j]? = some r→Value.okWide P W' .any 0 t r:=ok_one hres rfl (okWide_bool_mk htb _);refine ⟨ds,[],p++[],[],p,[],hW',hresult _ _ _,hargs _ hold,hvars _,World.keptBut_mono (fun x hx=>⟨hx,?_⟩) (hb.frame (· ∈ p++[])),fun _=>?_⟩
 ·simpa using hx
 ·refine ⟨hok,_,_,([]++p)++[],⟨[]++p,[],trodAll_append (hargs _ (fun _ _=>rfl)) (hresult _ _ _),hvars _,rfl,?_,?_⟩,?_⟩
  ·intro b off hp;have hin:MemPlace.cell b off ∈ p++[]:=by simpa using hp
   rw [hb.frozen (hlt _ hin)];exact hz b off hin
  ·intro ha;have:=hn ha
   simpa using this
  ·intro x hx _
   simpa using hx
def Z2a (n:Nat):Prop:=(Zm 4294967296 n).length≤137438953472
instance (n:Nat):Decidable (Z2a n):=inferInstanceAs (Decidable (_≤_))
def Znc (a:List Int):Option Nat:=some (val 4294967296 a)
def Zde (n:Int):Option Nat:=some n.toNat
def Zge (n m:Nat):Option Int:=some (Zib n m)
def ZIg (n m:Nat):Option Nat:=if Z2a n∧Z2a m then some (n+m) else none
def Zed (n m:Nat):Option Nat:=if Z2a n∧m≤n then some (n-m) else none
def Zmb (n m:Nat):Option Nat:=if Z2a n∧Z2a m then some (n*m) else none
def ZXg (n:Nat):Option Int:=if Z2a n then some (bl n) else none
def Zwf (n:Nat) (k:Int):Option Nat:=if Z2a n∧0≤k∧k≤1099511627776 then some (n*2^k.toNat) else none
def ZOg (n:Nat) (k:Int):Option Nat:=if Z2a n∧0≤k then some (n / 2^k.toNat) else none
def Z0f (n:Nat) (d:Int):Option (Nat×Int):=if Z2a n∧0<d then some (n / d.toNat,((n%d.toNat:Nat):Int)) else none
def ZFb (n:Int):Option Rat:=some (n:Rat)
def Z4c (x:Rat):Option Nat:=some x.den
def ZNa (n:Nat):List UInt8:=if h:n=0 then [] else ZNa (n / 10)++[UInt8.ofNat (48+n%10)]
termination_by n
decreasing_by omega
def ZHa (n:Nat):List UInt8:=if n=0 then [48] else ZNa n
def Zjh (n:Int):Option (List UInt8):=some (ZNa n.toNat)
def ZWd (x:Rat):List UInt8:=(if x.num<0 then [45] else [])++ZHa x.num.natAbs++(if x.den=1 then [] else 47 :: ZHa x.den)
def ZLb (r:Int×Int):Rat:=if r.2=0 then (r.1:Rat) else Rat.divInt r.1 r.2
def ZTc (r:Int×Int):Option Rat:=some (ZLb r)
def ZJe (x:Rat):Option Bool:=some (decide (x=0))
def ZNc (x:Rat):Option Int:=some x.num.sign
def Zci (n d:Int):Option (Rat×Int):=some (if d=0 then (0,3) else (Rat.divInt n d,0))
def Zxc (r:Int×Int):Option Rat:=some (ZLb r)
def smQ (x:Rat):Prop:=bl x.num.natAbs≤68719476736∧bl x.den≤68719476736
instance (x:Rat):Decidable (smQ x):=inferInstanceAs (Decidable (_∧_))
noncomputable def ZNj (a:(List Int)):Option (Bool) :=
 bnd (ifb (((a.length:Int))==(1:Int))
 (bnd (idx a (0:Int)) fun b =>
 some (b==(1:Int)))
 (some false))
 (fun (c:Bool) =>
 (some c))
noncomputable def ZCk (a:(List Int)):Option ((List Int)) :=
 bnd (bnd (Z7 (fun s:(List Int)=>match s with
 | b =>
 (bnd (ifb (decide ((0:Int)<(b.length:Int)))
 (bnd (chk .i64 (((b.length:Int))-(1:Int))) fun c =>
 bnd (idx b c) fun d =>
 some (d==(0:Int)))
 (some false))
 (fun (e:Bool) =>
 (ifb (e)
 (bnd (chk .i64 (((b.length:Int))-(1:Int))) fun f =>
 bnd (ZYa b (0:Int) f) fun g =>
 some (.inl g))
 (some (.inr b)))))) Zga a)
 (fun (h:(List Int)) =>
 (some h)))
 (fun (i:(List Int)) =>
 (some i))
noncomputable def Z1i (a:(List Int)) (b:(List Int)):Option (Int) :=
 ifb (((a.length:Int)) != ((b.length:Int)))
 (ifb (decide ((a.length:Int)<(b.length:Int)))
 (some (-1:Int))
 (some (1:Int)))
 (bnd (chk .i64 (((a.length:Int))-(1:Int))) fun d =>
 bnd (bnd (Z7 (fun s:Int=>match s with
 | c =>
 (ifb (decide ((0:Int)≤c))
 (bnd (idx a c) fun e =>
 bnd (idx b c) fun f =>
 ifb (decide (e<f))
 (some (.inr ((.inl (-1:Int)))))
 (bnd (idx a c) fun g =>
 bnd (idx b c) fun h =>
 ifb (decide (h<g))
 (some (.inr ((.inl (1:Int)))))
 (bnd (chk .i64 (c-(1:Int))) fun i =>
 some (.inl i))))
 (some (.inr ((.inr (()))))))) Zga d)
 (fun (p:(Int) ⊕ (Unit))=>match p with
 | .inl j =>
 (some ((.inr j)))
 | .inr (()) =>
 (some ((.inl (()))))))
 (fun (p:(Unit) ⊕ (Int))=>match p with
 | .inl (()) =>
 (some (0:Int))
 | .inr k =>
 (some k)))
noncomputable def ZBi (a:Nat) (b:Nat):Option (Int) :=
 bnd (ifb (decide ((0:Int)<(((Zm 18446744073709551616 a)).length:Int)))
 (bnd (idx ((Zm 18446744073709551616 a)) (0:Int)) fun e =>
 some e)
 (some (0:Int)))
 (fun (f:Int) =>
 (bnd (idx ((Zm 18446744073709551616 b)) (0:Int)) fun g =>
 bnd (bnd (Z7 (fun s:Int×Int=>match s with
 | (d,c) =>
 (ifb (decide ((0:Int)<c))
 (bnd (rem .u64 d c) fun h =>
 some (.inl ((c,h))))
 (some (.inr d)))) Zga ((f,g)))
 (fun (i:Int) =>
 (some i)))
 (fun (j:Int) =>
 (some j))))
theorem Z4s {n:Nat}:ZNj (Zm 18446744073709551616 n)=some (decide (n=1)):=by
 unfold ZNj;by_cases h:n=1
 ·subst h;rw [Z9j (by omega) (by decide)];rfl
 ·by_cases h0:n=0
  ·subst h0;rw [Zcb];rfl
  ·rw [ZGd (by decide) h0];by_cases h2:n / 18446744073709551616=0
   ·rw [h2,Zcb];have:n%18446744073709551616=n:=Nat.mod_eq_of_lt (by have:=Nat.mod_add_div n 18446744073709551616;rw [h2] at this;have:=Nat.mod_lt n (show 0<18446744073709551616 by decide);omega);simp [ifb,bnd,idx,this,h];omega
   ·have h3:Zm 18446744073709551616 (n / 18446744073709551616)≠[]:=fun e=>h2 ((ZWg (by decide)).1 e);have h4:0<(Zm 18446744073709551616 (n / 18446744073709551616)).length:=List.length_pos_iff.2 h3;have h5:((((n%18446744073709551616:Nat):Int) :: Zm 18446744073709551616 (n / 18446744073709551616)).length:Int)==1↔False:=by
     simp only [List.length_cons,beq_iff_eq,iff_false];omega
    have h6:(((((n%18446744073709551616:Nat):Int) :: Zm 18446744073709551616 (n / 18446744073709551616)).length:Int)==1)=false:=by simpa using h5
    rw [h6];simp [ifb,bnd,h]
theorem cut_eq {a:List Int} (ha:Dig 18446744073709551616 a) (hl:a.length≤9223372036854775807):ZCk a=some (Zm 18446744073709551616 (val 18446744073709551616 a)):=by
 unfold ZCk;rw [ZGj (r:=Zm 18446744073709551616 (val 18446744073709551616 a)) (fun s=>Dig 18446744073709551616 s∧s.length≤9223372036854775807∧val 18446744073709551616 s=val 18446744073709551616 a) List.length ⟨ha,hl,rfl⟩ (Z1a (by omega)) ?_]
 ·rfl
 ·rintro s ⟨h1,h2,h3⟩;by_cases h0:s=[]
  ·subst h0;right;rw [← h3];show some (Sum.inr [])=_;rw [show val 18446744073709551616 []=0 from rfl,Zcb]
  ·have hp:0<s.length:=List.length_pos_iff.2 h0;have e1:decide ((0:Int)<(s.length:Int))=true:=decide_eq_true (by omega);have e2:chk .i64 ((s.length:Int)-1)=some ((s.length-1:Nat):Int):=by
    rw [Zka (by omega) (by omega)];congr 1;omega
   have e3:idx s ((s.length-1:Nat):Int)=some (s[s.length-1]'(by omega)):=Z9 (by omega);simp only [e1,ZH,e2,Ze,e3];by_cases hz:s[s.length-1]'(by omega)=0
   ·left;have e4:((s[s.length-1]'(by omega))==0)=true:=by simp [hz]
    simp only [e4,ZH];have e5:ZYa s 0 ((s.length-1:Nat):Int)=some (s.take (s.length-1)):=by
     unfold ZYa;rw [if_pos ⟨by omega,by omega,by omega⟩];simp
    rw [e5];refine ⟨_,rfl,⟨h1.take _,by simp;omega,?_⟩,by simp;omega⟩;have:=Zfc (B:=18446744073709551616) (l:=s) (i:=s.length-1) (by omega);rw [hz] at this;have h4:s.length-1+1=s.length:=by omega
    rw [h4,List.take_length] at this;simp at this;omega
   ·right;have e4:((s[s.length-1]'(by omega))==0)=false:=by simp [hz]
    simp only [e4,ZF];have hc:Cut s:=by
     intro x hx;rw [List.getLast?_eq_getElem?,List.getElem?_eq_getElem (by omega)] at hx
     cases hx;exact hz
    rw [← h3,Zdg (by decide) h1 hc]
theorem ZId {B n:Nat} (hB:2≤B):(Zm B n)≠[]↔n≠0:=not_congr (ZWg hB)
theorem Zjk {B n m:Nat} (hB:2≤B) (h:(Zm B n).length<(Zm B m).length):n<m:=by
 have h1:=Zwd hB n;have hm:m≠0:=by rintro rfl;rw [Zcb] at h;simp at h
 have h2:=Zli hB hm;have h3:B^(Zm B n).length≤B^((Zm B m).length-1):=Nat.pow_le_pow_right (by omega) (by omega);omega
theorem Ztk {B:Nat} {a b:List Int} (ha:Dig B a) (hb:Dig B b) {i:Nat} (hl:a.length=b.length) (hi:i<a.length) (he:a.drop (i+1)=b.drop (i+1)) (h:a[i]<b[i]'(by omega)):val B a<val B b:=by
 rw [Zbe B a (i+1) (by omega),Zbe B b (i+1) (by omega),he,Zfc hi,Zfc (by omega:i<b.length)];have h1:=Zae (ha.take i);rw [List.length_take,Nat.min_eq_left (by omega)] at h1;have h2:=ha.get hi;have h3:=hb.get (i:=i) (by omega);have h4:B^i*(a[i].toNat+1)≤B^i*(b[i]'(by omega)).toNat:=Nat.mul_le_mul_left _ (by omega);rw [Nat.mul_add] at h4;omega
theorem cmp_eq {n m:Nat} (h1:(Zm 18446744073709551616 n).length≤9223372036854775807) (h2:(Zm 18446744073709551616 m).length≤9223372036854775807):Z1i (Zm 18446744073709551616 n) (Zm 18446744073709551616 m)=some (Zib n m):=by
 unfold Z1i;by_cases hl:(Zm 18446744073709551616 n).length=(Zm 18446744073709551616 m).length
 ·have e0:(((Zm 18446744073709551616 n).length:Int) != ((Zm 18446744073709551616 m).length:Int))=false:=by simp [hl]
  rw [e0,ZF];rw [Zka (by omega) (by omega),Ze];have hd:=Zxb (B:=18446744073709551616) (by decide) n;have hd':=Zxb (B:=18446744073709551616) (by decide) m;have hvn:=Zgb (B:=18446744073709551616) (by decide) n;have hvm:=Zgb (B:=18446744073709551616) (by decide) m;generalize Zm 18446744073709551616 n=a at *;generalize Zm 18446744073709551616 m=b at *;rw [ZGj (r:=if n<m then .inl (-1) else if m<n then .inl 1 else .inr ()) (fun s:Int=>-1≤s∧s<a.length∧a.drop (s+1).toNat=b.drop (s+1).toNat) (fun s=>(s+1).toNat) ⟨by omega,by omega,?_⟩ (Z1a (by omega)) ?_]
  ·rw [Ze];unfold Zib;by_cases hlt:n<m
   ·simp only [if_pos hlt];rfl
   ·by_cases hgt:m<n
    ·simp only [if_neg hlt,if_pos hgt];rfl
    ·simp only [if_neg hlt,if_neg hgt];rfl
  ·rw [List.drop_eq_nil_of_le (by omega),List.drop_eq_nil_of_le (by omega)]
  ·rintro s ⟨h3,h4,h5⟩;by_cases hs:0≤s
   ·obtain ⟨i,rfl⟩:=Int.eq_ofNat_of_zero_le hs;have hi:i<a.length:=by omega
    have hi':i<b.length:=by omega
    have e1:decide ((0:Int)≤(i:Int))=true:=decide_eq_true hs;simp only [e1,ZH,Z9 hi,Z9 hi',Ze];have ei:((i:Int)+1).toNat=i+1:=by omega
    rw [ei] at h5;by_cases hlt:a[i]<b[i]
    ·right;have:=Ztk hd hd' hl hi h5 hlt;rw [decide_eq_true hlt,ZH,if_pos (by omega)]
    ·by_cases hgt:b[i]<a[i]
     ·right;have:=Ztk hd' hd hl.symm hi' h5.symm hgt;rw [decide_eq_false hlt,ZF,decide_eq_true hgt,ZH,if_neg (by omega),if_pos (by omega)]
     ·left;rw [decide_eq_false hlt,ZF,decide_eq_false hgt,ZF,Zka (by omega) (by omega),Ze];refine ⟨_,rfl,⟨by omega,by omega,?_⟩,by simp⟩;have e2:((i:Int)-1+1).toNat=i:=by omega
      rw [e2,List.drop_eq_getElem_cons hi,List.drop_eq_getElem_cons hi',h5];congr 1;omega
   ·right;have:s = -1:=by omega
    subst this;simp at h5;have:n=m:=by rw [← hvn,← hvm,h5]
    subst this;simp [ifb]
 ·have e0:(((Zm 18446744073709551616 n).length:Int) != ((Zm 18446744073709551616 m).length:Int))=true:=by simp;omega
  rw [e0,ZH];by_cases hlt:(Zm 18446744073709551616 n).length<(Zm 18446744073709551616 m).length
  ·have:=Zjk (by decide) hlt;rw [decide_eq_true (by omega),ZH];simp [Zib,this]
  ·have:=Zjk (B:=18446744073709551616) (n:=m) (m:=n) (by decide) (by omega);rw [decide_eq_false (by omega),ZF];have h5:¬ n<m:=by omega
   simp [Zib,this,h5]
theorem ZQk {B n:Nat} (hB:2≤B) (h0:n≠0) (h:n<B):idx (Zm B n) 0=some (n:Int):=by rw [Z9j h0 h];rfl
theorem ZAp {n m:Nat} (hn:n<18446744073709551616) (hm:m<18446744073709551616) (h0:m≠0):ZBi n m=some ((Nat.gcd n m:Nat):Int):=by
 unfold ZBi;have e1:ifb (decide ((0:Int)<((Zm 18446744073709551616 n).length:Int))) (bnd (idx (Zm 18446744073709551616 n) 0) fun y80=>some y80) (some 0)=some (n:Int):=by
  by_cases h:n=0
  ·subst h;rw [Zcb];rfl
  ·rw [Z9j h hn];rfl
 rw [e1,Ze,ZQk (by decide) h0 hm,Ze];rw [ZGj (r:=((Nat.gcd n m:Nat):Int)) (fun s:Int×Int=>0≤s.1∧0≤s.2∧s.2<18446744073709551616∧Nat.gcd s.1.toNat s.2.toNat=Nat.gcd n m) (fun s=>s.2.toNat) ⟨by simp,by simp,by simp;omega,by simp⟩ (Z1a (by simp;omega)) ?_]
 ·rfl
 ·rintro ⟨x,y⟩ ⟨h1,h2,h3,h4⟩;simp only at h1 h2 h3 h4 ⊢;by_cases hy:y=0
  ·right;subst hy;simp at h4;simp [ifb];omega
  ·left;rw [decide_eq_true (by omega),ZH];have e2:rem .u64 x y=some (x.tmod y):=by unfold rem;rw [if_neg hy]
   rw [e2,Ze];obtain ⟨X,rfl⟩:=Int.eq_ofNat_of_zero_le h1;obtain ⟨Y,rfl⟩:=Int.eq_ofNat_of_zero_le h2;have e3:(X:Int).tmod (Y:Int)=((X%Y:Nat):Int):=by simp [Int.tmod_eq_emod_of_nonneg]
   rw [e3];have hY:0<Y:=by omega
   have:=Nat.mod_lt X hY;refine ⟨_,rfl,⟨by omega,by omega,by simp;omega,?_⟩,by simp;omega⟩;simp only [Int.toNat_natCast] at h4 ⊢;rw [← h4]
   conv=>rhs;rw [Nat.gcd_comm,Nat.gcd_rec,Nat.gcd_comm]
noncomputable def Z9h (a:Nat) (b:Nat):Option (Nat) :=
 bnd (ifb (decide ((((Zm 18446744073709551616 a)).length:Int)<(((Zm 18446744073709551616 b)).length:Int)))
 (some ((b,a)))
 (some ((a,b))))
 (fun (p:Nat×Nat)=>match p with
 | (d,h) =>
 (bnd (chk .i64 (((((Zm 18446744073709551616 d)).length:Int))+(1:Int))) fun k =>
 bnd (mk 8 ((((Zm 18446744073709551616 d)).length:Int)) k) fun v =>
 bnd (bnd (Z7 (fun s:(List Int)×Int×Int=>match s with
 | (e,i,c) =>
 (ifb (decide (c<(((Zm 18446744073709551616 d)).length:Int)))
 (bnd (idx ((Zm 18446744073709551616 d)) c) fun l =>
 bnd (ifb (decide (c<(((Zm 18446744073709551616 h)).length:Int)))
 (bnd (idx ((Zm 18446744073709551616 h)) c) fun m =>
 some m)
 (some (0:Int)))
 (fun (n:Int) =>
 (bnd (Z0c l n i) fun j =>
 bnd (idx e c) fun w =>
 bnd (chk .i64 (c+(1:Int))) fun o =>
 some (.inl (((e.set (c).toNat j.1),j.2,o))))))
 (some (.inr ((e,i)))))) Zga (((List.replicate ((((Zm 18446744073709551616 d)).length:Int)).toNat (0:Int)),(0:Int),(0:Int))))
 (fun (p:(List Int)×Int)=>match p with
 | (q,r) =>
 (some ((q,r)))))
 (fun (p:(List Int)×Int)=>match p with
 | (f,g) =>
 (bnd (ifb (decide ((0:Int)<g))
 (bnd (Z4a 8 (f++[g])) fun x =>
 some ((f++[g])))
 (some f))
 (fun (t:(List Int)) =>
 (bnd (clo t) fun u =>
 some u))))))
noncomputable def Zui (a:Nat) (b:Nat):Option (Nat) :=
 bnd (mk 8 ((((Zm 18446744073709551616 a)).length:Int)) ((((Zm 18446744073709551616 a)).length:Int))) fun n =>
 bnd (bnd (Z7 (fun s:(List Int)×Int×Int=>match s with
 | (d,f,c) =>
 (ifb (decide (c<(((Zm 18446744073709551616 a)).length:Int)))
 (bnd (idx ((Zm 18446744073709551616 a)) c) fun g =>
 bnd (ifb (decide (c<(((Zm 18446744073709551616 b)).length:Int)))
 (bnd (idx ((Zm 18446744073709551616 b)) c) fun h =>
 some h)
 (some (0:Int)))
 (fun (i:Int) =>
 (bnd (ZRe g i f) fun e =>
 bnd (idx d c) fun o =>
 bnd (chk .i64 (c+(1:Int))) fun j =>
 some (.inl (((d.set (c).toNat e.1),e.2,j))))))
 (some (.inr d)))) Zga (((List.replicate ((((Zm 18446744073709551616 a)).length:Int)).toNat (0:Int)),(0:Int),(0:Int))))
 (fun (k:(List Int)) =>
 (some k)))
 (fun (l:(List Int)) =>
 (bnd (Z0b l) fun m =>
 some m))
theorem Zxm {P V Va Vb lo hi x y c B:Nat} (h:V+P*c=Va+Vb) (e:lo+B*hi=x+y+c):V+P*lo+P*B*hi=Va+P*x+(Vb+P*y):=by
 grind
theorem Zsl {P V Va Vb lo hi x y c B:Nat} (h:V+Vb=Va+P*c) (e:lo+y+c=x+B*hi):V+P*lo+(Vb+P*y)=Va+P*x+P*B*hi:=by
 grind
theorem ZWo {l:List Int} {B k:Nat} (hd:Dig B l) (hB:0<B):∃ y:Int,bnd (ifb (decide ((k:Int)<(l.length:Int))) (bnd (idx l (k:Int)) fun y=>some y) (some 0)) (fun x=>some x)=some y∧0≤y∧y<B∧val B (l.take (k+1))=val B (l.take k)+B^k*y.toNat ∧
  ∀ {α:Type} (f:Int→Option α),bnd (ifb (decide ((k:Int)<(l.length:Int))) (bnd (idx l (k:Int)) fun y=>some y) (some 0)) f=f y:=by
 by_cases h:k<l.length
 ·have e:decide ((k:Int)<(l.length:Int))=true:=decide_eq_true (by omega);refine ⟨l[k],?_,(hd.get h).1,(hd.get h).2,Zfc h,fun f=>?_⟩
  ·rw [e,ZH,Z9 h];rfl
  ·rw [e,ZH,Z9 h];rfl
 ·have e:decide ((k:Int)<(l.length:Int))=false:=decide_eq_false (by omega);refine ⟨0,?_,by omega,by omega,?_,fun f=>?_⟩
  ·rw [e];rfl
  ·rw [List.take_of_length_le (by omega),List.take_of_length_le (by omega)];simp
  ·rw [e];rfl
theorem Zhq {l:List Int} {k:Nat} {x:Int} (h:k<l.length):(l.set k x).take (k+1)=l.take k++[x]:=by
 rw [List.take_set,List.take_succ_eq_append_getElem h,List.set_append_right _ _ (by simp;omega)];simp [List.length_take,Nat.min_eq_left (Nat.le_of_lt h)]
theorem ZGg {B:Nat} {l:List Int} {k:Nat} {x:Int} (h:k<l.length):val B ((l.set k x).take (k+1))=val B (l.take k)+B^k*x.toNat:=by
 rw [Zhq h,ZTd,List.length_take,Nat.min_eq_left (by omega)];simp [val]
theorem ZDi {x y c:Int} (hx:0≤x) (hy:0≤y) (hc:0≤c) (hc':c≤1):Z0c x y c=some ((x+y+c)%18446744073709551616,(x+y+c) / 18446744073709551616):=by
 unfold Z0c;rw [if_pos ⟨hx,hy,hc,hc'⟩]
theorem ZTo {x y c:Int} (hx:0≤x) (hy:0≤y) (hc:0≤c) (hc':c≤1):ZRe x y c=some ((x-y-c)%18446744073709551616,if x<y+c then 1 else 0):=by
 unfold ZRe;rw [if_pos ⟨hx,hy,hc,hc'⟩]
theorem Z3d {b:Nat} {l c:Int} (h0:0≤l) (h1:l≤c) (h2:(b:Int)*c≤281474976710656) (h3:c≤9223372036854775807):∃ u,mk b l c=some u:=by
 unfold mk;rw [if_pos ⟨h0,h1,h2,h3⟩];exact ⟨_,rfl⟩
theorem plus_eq {n m:Nat} (hn:okN n) (hm:okN m):Z9h n m=some (n+m):=by
 unfold Z9h;obtain ⟨x,y,e,hx,hy,hxy,hl⟩:∃ x y:Nat,ifb (decide ((((Zm 18446744073709551616 n)).length:Int)<(((Zm 18446744073709551616 m)).length:Int))) (some (m,n)) (some (n,m))=some (x,y)∧okN x∧okN y∧x+y=n+m ∧
   (Zm 18446744073709551616 y).length≤(Zm 18446744073709551616 x).length:=by
  by_cases h:(Zm 18446744073709551616 n).length<(Zm 18446744073709551616 m).length
  ·exact ⟨m,n,by rw [decide_eq_true (by omega)];rfl,hm,hn,by omega,by omega⟩
  ·exact ⟨n,m,by rw [decide_eq_false (by omega)];rfl,hn,hm,rfl,by omega⟩
 rw [e,Ze,← hxy];simp only;have hdx:=Zxb (B:=18446744073709551616) (by decide) x;have hdy:=Zxb (B:=18446744073709551616) (by decide) y;have hvx:=Zgb (B:=18446744073709551616) (by decide) x;have hvy:=Zgb (B:=18446744073709551616) (by decide) y;have hcx:=Zej (B:=18446744073709551616) (by decide) x;have hcy:=Zej (B:=18446744073709551616) (by decide) y;unfold okN at hx hy;generalize Zm 18446744073709551616 x=a at *;generalize Zm 18446744073709551616 y=b at *;rw [Zka (by omega) (by omega),Ze];obtain ⟨u,hu⟩:=Z3d (b:=8) (l:=(a.length:Int)) (c:=(a.length:Int)+1) (by omega) (by omega) (by omega) (by omega);rw [hu,Ze,Zab];refine Znb (fun s:(List Int)×Int×Int=>∃ k:Nat,s.2.2=(k:Int)∧k≤a.length∧s.1.length=a.length∧Dig 18446744073709551616 s.1∧0≤s.2.1∧s.2.1≤1 ∧
  val 18446744073709551616 (s.1.take k)+18446744073709551616^k*s.2.1.toNat=val 18446744073709551616 (a.take k)+val 18446744073709551616 (b.take k)) (fun s=>a.length-s.2.2.toNat)
  (fun r:List Int×Int=>r.1.length=a.length∧Dig 18446744073709551616 r.1∧0≤r.2∧r.2≤1∧val 18446744073709551616 r.1+18446744073709551616^a.length*r.2.toNat=x+y)
  ⟨0,rfl,by omega,by simp,Dig.replicate _ (by omega),Int.le_refl _,(by show (0:Int)≤1;omega),by simp [val]⟩ (Z1a (by simp;omega)) ?_ ?_
 ·rintro ⟨out,c,i⟩ ⟨k,rfl,hk,ho,hd,hc,hc',hv⟩;simp only at ho hd hc hc' hv ⊢;by_cases hlt:k<a.length
  ·left;rw [decide_eq_true (by omega),ZH,Z9 hlt,Ze];obtain ⟨y,_,hy,hy',hvb,hf⟩:=ZWo (k:=k) hdy (by decide);rw [hf,ZDi (hdx.get hlt).1 hy hc hc',Ze,Z9 (by omega),Ze,Zka (by omega) (by omega),Ze];have hx:=hdx.get hlt;refine ⟨_,rfl,⟨k+1,by simp,by omega,by simp [ho],?_,by simp;omega,by simp;omega,?_⟩,by simp;omega⟩
   ·exact hd.set _ (by omega)
   ·simp only [Int.toNat_natCast];rw [ZGg (by omega),Zfc hlt,hvb,Nat.pow_succ];exact Zxm hv (by omega)
  ·right;rw [decide_eq_false (by omega),ZF];refine ⟨_,rfl,ho,hd,hc,hc',?_⟩;have hk':k=a.length:=by omega
   subst hk';rw [← hvx,← hvy]
   simpa [List.take_of_length_le,ho,hl] using hv
 ·rintro ⟨out,c⟩ ⟨ho,hd,hc,hc',hv⟩;simp only at ho hd hc hc' hv ⊢;rw [Ze];simp only;rw [← hv];by_cases h0:0<c
  ·have hc1:c=1:=by omega
   subst hc1;rw [decide_eq_true (by omega),ZH];have hr:Z4a 8 (out++[(1:Int)])=some ():=by unfold Z4a;rw [if_pos (by simp;omega)]
   rw [hr,Ze,Ze,Z2o (Dig.append.2 ⟨hd,Dig.cons.2 ⟨by omega,Dig.nil⟩⟩) (by intro x hx;simp at hx;omega),Ze,ZTd,ho];simp [val]
  ·have hc1:c=0:=by omega
   subst hc1;rw [decide_eq_false (by omega),ZF,Ze];have hcut:Cut out:=by
    intro z hz h0;subst h0;have hne:out≠[]:=by rintro rfl;cases hz
    have hpos:0<out.length:=List.length_pos_iff.2 hne;have h1:val 18446744073709551616 out<18446744073709551616^(a.length-1):=by
     rw [List.getLast?_eq_getElem?,List.getElem?_eq_getElem (by omega)] at hz;have h2:=Zfc (B:=18446744073709551616) (l:=out) (i:=out.length-1) (by omega);rw [Option.some.inj hz] at h2;have h3:out.length-1+1=out.length:=by omega
     rw [h3,List.take_length] at h2;have h4:=Zae (hd.take (out.length-1));rw [List.length_take,Nat.min_eq_left (by omega),ho] at h4;simp at h2;rw [h2,ho];exact h4
    have h5:x≠0:=by
     rintro rfl;rw [← Zdg (by decide) hdx hcx,hvx,Zcb] at ho;simp at ho;exact hne ho
    have h6:=Zli (B:=18446744073709551616) (by decide) h5;rw [← hvx,Zdg (by decide) hdx hcx,hvx] at h6;simp at hv;omega
   rw [Z2o hd hcut,Ze];simp
theorem Z7d {B n m:Nat} (hB:2≤B) (h:n≤m):(Zm B n).length≤(Zm B m).length:=by
 apply Zqg hB;exact Nat.lt_of_le_of_lt h (Zwd hB m)
theorem Z8q {n m:Nat} (hn:okN n) (hm:m≤n):Zui n m=some (n-m):=by
 unfold Zui;have hl:=Z7d (B:=18446744073709551616) (by decide) hm;have hdx:=Zxb (B:=18446744073709551616) (by decide) n;have hdy:=Zxb (B:=18446744073709551616) (by decide) m;have hvx:=Zgb (B:=18446744073709551616) (by decide) n;have hvy:=Zgb (B:=18446744073709551616) (by decide) m;unfold okN at hn;generalize Zm 18446744073709551616 n=a at *;generalize Zm 18446744073709551616 m=b at *;obtain ⟨u,hu⟩:=Z3d (b:=8) (l:=(a.length:Int)) (c:=(a.length:Int)) (by omega) (by omega) (by omega) (by omega);rw [hu,Ze,Zab];refine Znb (fun s:(List Int)×Int×Int=>∃ k:Nat,s.2.2=(k:Int)∧k≤a.length∧s.1.length=a.length∧Dig 18446744073709551616 s.1∧0≤s.2.1∧s.2.1≤1 ∧
  val 18446744073709551616 (s.1.take k)+val 18446744073709551616 (b.take k)=val 18446744073709551616 (a.take k)+18446744073709551616^k*s.2.1.toNat) (fun s=>a.length-s.2.2.toNat)
  (fun r:List Int=>r.length=a.length∧Dig 18446744073709551616 r∧val 18446744073709551616 r=n-m)
  ⟨0,rfl,by omega,by simp,Dig.replicate _ (by omega),Int.le_refl _,(by show (0:Int)≤1;omega),by simp [val]⟩ (Z1a (by simp;omega)) ?_ ?_
 ·rintro ⟨out,c,i⟩ ⟨k,rfl,hk,ho,hd,hc,hc',hv⟩;simp only at ho hd hc hc' hv ⊢;by_cases hlt:k<a.length
  ·left;rw [decide_eq_true (by omega),ZH,Z9 hlt,Ze];obtain ⟨y,_,hy,hy',hvb,hf⟩:=ZWo (k:=k) hdy (by decide);have hx:=hdx.get hlt;rw [hf,ZTo (hdx.get hlt).1 hy hc hc',Ze,Z9 (by omega),Ze,Zka (by omega) (by omega),Ze];refine ⟨_,rfl,⟨k+1,by simp,by omega,by simp [ho],?_,by simp only;split <;> omega,by simp only;split <;> omega,?_⟩,by simp;omega⟩
   ·exact hd.set _ (by omega)
   ·simp only [Int.toNat_natCast];rw [ZGg (by omega),Zfc hlt,hvb,Nat.pow_succ];refine Zsl hv ?_;split <;> omega
  ·right;rw [decide_eq_false (by omega),ZF];refine ⟨_,rfl,ho,hd,?_⟩;have hk':k=a.length:=by omega
   subst hk';simp [List.take_of_length_le,ho,hl,hvx,hvy] at hv;have hlt2:=Zae hd;rw [ho] at hlt2;have:c.toNat=0:=by
    have h1:c=0∨c=1:=by omega
    rcases h1 with rfl | rfl
    ·rfl
    ·simp at hv;omega
   rw [this] at hv;omega
 ·rintro out ⟨ho,hd,hv⟩;rw [Ze];unfold Z0b;rw [hv,Ze]
theorem ZRs {n m z:Nat} (h:Zug n m=some z):Z9h n m=some z:=by
 unfold Zug at h;split at h
 ·rename_i hh;rw [plus_eq hh.1 hh.2,h]
 ·cases h
theorem Zur {n m z:Nat} (h:Z7g n m=some z):Zui n m=some z:=by
 unfold Z7g at h;split at h
 ·rename_i hh;rw [Z8q hh.1 hh.2,h]
 ·cases h
theorem ZLs {n m:Nat} {z:Int} (h:Z9g n m=some z):ZBi n m=some z:=by
 unfold Z9g at h;split at h
 ·rename_i hh;rw [ZAp hh.1 hh.2.1 hh.2.2,h]
 ·cases h
noncomputable def Z6h (x:Int) (y:Int):Option (Int×Int) :=
 bnd (ZUa .u64 x (32:Int)) fun a =>
 bnd (ZUa .u64 y (32:Int)) fun b =>
 bnd (ZUa .u64 (IntKind.u64.wrap ((Z8a .u64 x (4294967295:Int))*(Z8a .u64 y (4294967295:Int)))) (32:Int)) fun c =>
 bnd (ZUa .u64 (IntKind.u64.wrap ((IntKind.u64.wrap (a*(Z8a .u64 y (4294967295:Int))))+c)) (32:Int)) fun d =>
 bnd (ZUa .u64 (IntKind.u64.wrap ((Z8a .u64 (IntKind.u64.wrap ((IntKind.u64.wrap (a*(Z8a .u64 y (4294967295:Int))))+c)) (4294967295:Int))+(IntKind.u64.wrap ((Z8a .u64 x (4294967295:Int))*b)))) (32:Int)) fun e =>
 some ((IntKind.u64.wrap ((IntKind.u64.wrap ((IntKind.u64.wrap (a*b))+d))+e),IntKind.u64.wrap (x*y)))
theorem wrap_u64 (z:Int):IntKind.u64.wrap z=z%18446744073709551616:=by
 simp [IntKind.wrap,IntKind.signed,IntKind.bits]
theorem Zal {x:Int} {k:Nat} (hx:0≤x) (hk:k≤64):ZUa .u64 x (k:Int)=some (x / 2^k):=by
 unfold ZUa;rw [if_neg (by omega)];have:min ((k:Int).toNat) IntKind.u64.bits=k:=by simp [IntKind.bits];omega
 rw [this,Int.fdiv_eq_ediv_of_nonneg];exact Int.pow_nonneg (by omega)
theorem Zpg (x:Nat) (h:x<18446744073709551616):Z8a .u64 (x:Int) 4294967295=((x%4294967296:Nat):Int):=by
 unfold Z8a;rw [wrap_u64];have h1:(BitVec.ofInt IntKind.u64.bits (x:Int) &&& BitVec.ofInt IntKind.u64.bits 4294967295).toNat=x%4294967296:=by
  rw [BitVec.toNat_and];have e1:(BitVec.ofInt IntKind.u64.bits (x:Int)).toNat=x:=by
   show (BitVec.ofInt 64 (x:Int)).toNat=x;rw [BitVec.toNat_ofInt];simp;omega
  have e2:(BitVec.ofInt IntKind.u64.bits 4294967295).toNat=2^32-1:=by decide
  rw [e1,e2,Nat.and_two_pow_sub_one_eq_mod]
 rw [h1];omega
theorem Zlp {x y:Int} (hx:0≤x) (hy:0≤y) (hx':x<18446744073709551616) (hy':y<18446744073709551616):Z6h x y=some (x*y / 18446744073709551616,x*y%18446744073709551616):=by
 obtain ⟨X,rfl⟩:=Int.eq_ofNat_of_zero_le hx;obtain ⟨Y,rfl⟩:=Int.eq_ofNat_of_zero_le hy;obtain ⟨h1,h2,h3,h4⟩:=Go.Lib.mul64_hi X Y (by omega) (by omega);have p1:X / 4294967296*(Y%4294967296)≤18446744065119617025:=Go.Lib.half_mul_le (by omega) (by omega);have p2:X%4294967296*(Y / 4294967296)≤18446744065119617025:=Go.Lib.half_mul_le (by omega) (by omega);have p3:X / 4294967296*(Y / 4294967296)≤18446744065119617025:=Go.Lib.half_mul_le (by omega) (by omega);unfold Z6h;have s32:∀ n:Nat,ZUa .u64 (n:Int) ((32:Int))=some ((n / 4294967296:Nat):Int):=fun n=>by
  have:=Zal (x:=(n:Int)) (k:=32) (by omega) (by omega);exact this
 have wr:∀ n:Nat,n<18446744073709551616→IntKind.u64.wrap (n:Int)=(n:Int):=fun n h=>by rw [wrap_u64];omega
 have w1:IntKind.u64.wrap ((Z8a .u64 (X:Int) ((4294967295:Int)))*(Z8a .u64 (Y:Int) ((4294967295:Int))))=((X%4294967296*(Y%4294967296):Nat):Int):=by
  rw [Zpg X (by omega),Zpg Y (by omega),← Int.natCast_mul,wr _ h1]
 have w2:IntKind.u64.wrap (((X / 4294967296:Nat):Int)*(Z8a .u64 (Y:Int) ((4294967295:Int))))=((X / 4294967296*(Y%4294967296):Nat):Int):=by
  rw [Zpg Y (by omega),← Int.natCast_mul,wr _ (by omega)]
 have w3:IntKind.u64.wrap ((Z8a .u64 (X:Int) ((4294967295:Int)))*((Y / 4294967296:Nat):Int))=((X%4294967296*(Y / 4294967296):Nat):Int):=by
  rw [Zpg X (by omega),← Int.natCast_mul,wr _ (by omega)]
 have w4:IntKind.u64.wrap (((X / 4294967296:Nat):Int)*((Y / 4294967296:Nat):Int))=((X / 4294967296*(Y / 4294967296):Nat):Int):=by
  rw [← Int.natCast_mul,wr _ (by omega)]
 rw [s32,Ze,s32,Ze,w1,s32,Ze,w2,w3,w4,← Int.natCast_add,wr _ h2,s32,Ze,Zpg _ h2,← Int.natCast_add,wr _ h3,s32,Ze,← Int.natCast_add];have hlt:X*Y / 18446744073709551616<18446744073709551616:=by
  rw [Nat.div_lt_iff_lt_mul (by omega)];exact Nat.mul_lt_mul'' (by omega) (by omega)
 rw [wr _ (by omega),← Int.natCast_add,wr _ (by omega),h4,wrap_u64];simp
theorem Zts {x y:Int} {z:Int×Int} (h:ZGe x y=some z):Z6h x y=some z:=by
 unfold ZGe at h;split at h
 ·rename_i hh;rw [Zlp hh.1 hh.2.1 hh.2.2.1 hh.2.2.2,h]
 ·cases h
noncomputable def Zzi (a:Nat) (b:Nat):Option (Nat) :=
 bnd (Zcg a) fun o =>
 ifb (o)
 (some b)
 (bnd (Zcg b) fun q =>
 ifb (q)
 (some a)
 (bnd (chk .i64 (((((Zm 18446744073709551616 a)).length:Int))+((((Zm 18446744073709551616 b)).length:Int)))) fun f =>
 bnd (mk 8 f f) fun E =>
 bnd (bnd (Z7 (fun s:(List Int)×Int=>match s with
 | (g,c) =>
 (ifb (decide (c<(((Zm 18446744073709551616 a)).length:Int)))
 (bnd (idx ((Zm 18446744073709551616 a)) c) fun r =>
 bnd (bnd (Z7 (fun s:(List Int)×Int×Int=>match s with
 | (e,h,d) =>
 (ifb (decide (d<(((Zm 18446744073709551616 b)).length:Int)))
 (bnd (idx ((Zm 18446744073709551616 b)) d) fun t =>
 bnd (ZGe r t) fun i =>
 bnd (chk .i64 (c+d)) fun u =>
 bnd (idx e u) fun v =>
 bnd (Z0c i.2 v (0:Int)) fun j =>
 bnd (Z0c j.1 h (0:Int)) fun k =>
 bnd (chk .i64 (c+d)) fun l =>
 bnd (idx e l) fun F =>
 bnd (chk .i64 (d+(1:Int))) fun w =>
 some (.inl (((e.set (l).toNat k.1),IntKind.u64.wrap ((IntKind.u64.wrap (i.1+j.2))+k.2),w))))
 (some (.inr ((e,h)))))) Zga ((g,(0:Int),(0:Int))))
 (fun (p:(List Int)×Int)=>match p with
 | (x,y) =>
 (some ((x,y)))))
 (fun (p:(List Int)×Int)=>match p with
 | (m,z) =>
 (bnd (chk .i64 (c+((((Zm 18446744073709551616 b)).length:Int)))) fun n =>
 bnd (idx m n) fun G =>
 bnd (chk .i64 (c+(1:Int))) fun A =>
 some (.inl (((m.set (n).toNat z),A))))))
 (some (.inr g)))) Zga (((List.replicate (f).toNat (0:Int)),(0:Int))))
 (fun (B:(List Int)) =>
 (some B)))
 (fun (C:(List Int)) =>
 (bnd (Z0b C) fun D =>
 some D))))
noncomputable def ZYh (x:Int):Option (Int) :=
 bnd (ifb (decide ((4294967296:Int)≤x))
 (bnd (ZUa .u64 x (32:Int)) fun e =>
 some ((e,(32:Int))))
 (some ((x,(0:Int)))))
 (fun (p:Int×Int)=>match p with
 | (a,c) =>
 (bnd (ifb (decide ((65536:Int)≤a))
 (bnd (ZUa .u64 a (16:Int)) fun f =>
 bnd (chk .i64 (c+(16:Int))) fun g =>
 some ((f,g)))
 (some ((a,c))))
 (fun (p:Int×Int)=>match p with
 | (b,d) =>
 (bnd (ifb (decide ((256:Int)≤b))
 (bnd (ZUa .u64 b (8:Int)) fun h =>
 bnd (chk .i64 (d+(8:Int))) fun i =>
 some ((h,i)))
 (some ((b,d))))
 (fun (p:Int×Int)=>match p with
 | (j,k) =>
 (bnd (idx (([0,1,2,2,3,3,3,3,4,4,4,4,4,4,4,4,5,5,5,5,5,5,5,5,5,5,5,5,5,5,5,5,6,6,6,6,6,6,6,6,6,6,6,6,6,6,6,6,6,6,6,6,6,6,6,6,6,6,6,6,6,6,6,6,7,7,7,7,7,7,7,7,7,7,7,7,7,7,7,7,7,7,7,7,7,7,7,7,7,7,7,7,7,7,7,7,7,7,7,7,7,7,7,7,7,7,7,7,7,7,7,7,7,7,7,7,7,7,7,7,7,7,7,7,7,7,7,7,8,8,8,8,8,8,8,8,8,8,8,8,8,8,8,8,8,8,8,8,8,8,8,8,8,8,8,8,8,8,8,8,8,8,8,8,8,8,8,8,8,8,8,8,8,8,8,8,8,8,8,8,8,8,8,8,8,8,8,8,8,8,8,8,8,8,8,8,8,8,8,8,8,8,8,8,8,8,8,8,8,8,8,8,8,8,8,8,8,8,8,8,8,8,8,8,8,8,8,8,8,8,8,8,8,8,8,8,8,8,8,8,8,8,8,8,8,8,8,8,8,8,8,8,8,8,8,8]:List UInt8)) (IntKind.u8.wrap j)) fun l =>
 bnd (chk .i64 (k+(IntKind.i64.wrap ((l.toNat:Int))))) fun m =>
 some m))))))
theorem ZSo {V' V t d c c' Q P R S x y vm B:Nat} (h:V+Q*c=P+R*x*vm) (hs:V'+Q*t=V+Q*d) (e:d+B*c'=x*y+t+c) (hQ:Q=R*S):V'+Q*B*c'=P+R*x*(vm+S*y):=by
 have:Q*(d+B*c')=Q*(x*y+t+c):=by rw [e]
 subst hQ;grind
theorem Zuq {x y t c B1:Nat} (hx:x≤18446744073709551615) (hy:y≤18446744073709551615) (ht:t≤18446744073709551615) (hc:c≤18446744073709551615):x*y+t+c≤340282366920938463463374607431768211455:=by
 have:=Nat.mul_le_mul hx hy;omega
theorem ZMl {x y:Nat} (hx:x<18446744073709551616) (hy:y<18446744073709551616):ZGe (x:Int) (y:Int)=some (((x*y / 18446744073709551616:Nat):Int),((x*y%18446744073709551616:Nat):Int)):=by
 unfold ZGe;rw [if_pos ⟨by omega,by omega,by omega,by omega⟩];simp
theorem Zor {n m:Nat} (hn:okN n) (hm:okN m):Zzi n m=some (n*m):=by
 unfold Zzi;unfold Zcg;rw [Ze];by_cases h1:n=1
 ·rw [decide_eq_true h1,ZH,h1,Nat.one_mul]
 rw [decide_eq_false h1,ZF,Ze];by_cases h2:m=1
 ·rw [decide_eq_true h2,ZH,h2,Nat.mul_one]
 rw [decide_eq_false h2,ZF];have hdx:=Zxb (B:=18446744073709551616) (by decide) n;have hdy:=Zxb (B:=18446744073709551616) (by decide) m;have hvx:=Zgb (B:=18446744073709551616) (by decide) n;have hvy:=Zgb (B:=18446744073709551616) (by decide) m;unfold okN at hn hm;generalize Zm 18446744073709551616 n=a at *;generalize Zm 18446744073709551616 m=b at *;rw [Zka (by omega) (by omega),Ze];obtain ⟨u,hu⟩:=Z3d (b:=8) (l:=(a.length:Int)+b.length) (c:=(a.length:Int)+b.length) (by omega) (by omega) (by omega) (by omega);rw [hu,Ze,Zab];have e0:((a.length:Int)+b.length).toNat=a.length+b.length:=by omega
 rw [e0];refine Znb (fun s:(List Int)×Int=>∃ k:Nat,s.2=(k:Int)∧k≤a.length∧s.1.length=a.length+b.length∧Dig 18446744073709551616 s.1 ∧
  val 18446744073709551616 s.1=val 18446744073709551616 (a.take k)*val 18446744073709551616 b∧∀ j (h:j<s.1.length),k+b.length≤j→s.1[j]=0) (fun s=>a.length-s.2.toNat)
  (fun r:List Int=>r.length=a.length+b.length∧val 18446744073709551616 r=n*m) ⟨0,rfl,by omega,by simp,Dig.replicate _ (by omega),by simp [val,Zbj],by simp⟩ (Z1a (by simp;omega)) ?_ ?_
 ·rintro ⟨out,i⟩ ⟨k,rfl,hk,ho,hd,hv,hz⟩;simp only at ho hd hv hz ⊢;by_cases hlt:k<a.length
  ·left;have hx:=hdx.get hlt;rw [decide_eq_true (by omega),ZH,Z9 hlt,Ze];obtain ⟨X,hX⟩:=Int.eq_ofNat_of_zero_le hx.1;have hX':X<18446744073709551616:=by omega
   obtain ⟨⟨o,c⟩,er,ho2,hd2,hc,hv2,hz2⟩:=Z0j (body:=fun s:(List Int)×Int×Int=>match s with
    | (x204,x212,x214) =>
    (ifb (decide (x214<(b.length:Int)))
    (bnd (idx b x214) fun y245 =>
    bnd (ZGe a[k] y245) fun y261 =>
    bnd (chk .i64 ((k:Int)+x214)) fun y281 =>
    bnd (idx x204 y281) fun y283 =>
    bnd (Z0c y261.2 y283 ((0:Int))) fun y290 =>
    bnd (Z0c y290.1 x212 ((0:Int))) fun y301 =>
    bnd (chk .i64 ((k:Int)+x214)) fun y303 =>
    bnd (idx x204 y303) fun y305 =>
    bnd (chk .i64 (x214+((1:Int)))) fun y321 =>
    some (.inl (((x204.set (y303).toNat y301.1),IntKind.u64.wrap ((IntKind.u64.wrap (y261.1+y290.2))+y301.2),y321))))
    (some (.inr ((x204,x212)))))) (fun s:(List Int)×Int×Int=>∃ q:Nat,s.2.2=(q:Int)∧q≤b.length∧s.1.length=a.length+b.length∧Dig 18446744073709551616 s.1∧(0≤s.2.1∧s.2.1<18446744073709551616) ∧
     val 18446744073709551616 s.1+18446744073709551616^(k+q)*s.2.1.toNat=val 18446744073709551616 (a.take k)*val 18446744073709551616 b+18446744073709551616^k*X*val 18446744073709551616 (b.take q)∧∀ j (h:j<s.1.length),k+b.length≤j→s.1[j]=0)
    (fun s=>b.length-s.2.2.toNat)
    (fun r:List Int×Int=>r.1.length=a.length+b.length∧Dig 18446744073709551616 r.1∧(0≤r.2∧r.2<18446744073709551616) ∧
     val 18446744073709551616 r.1+18446744073709551616^(k+b.length)*r.2.toNat=val 18446744073709551616 (a.take k)*val 18446744073709551616 b+18446744073709551616^k*X*val 18446744073709551616 b∧∀ j (h:j<r.1.length),k+b.length≤j→r.1[j]=0)
    (by
     rintro ⟨o,c,i⟩ ⟨q,rfl,hq,ho2,hd2,hc,hv2,hz2⟩;simp only at ho2 hd2 hc hv2 hz2 ⊢;by_cases hqlt:q<b.length
     ·left;have hy:=hdy.get hqlt;obtain ⟨Y,hY⟩:=Int.eq_ofNat_of_zero_le hy.1;have hY':Y<18446744073709551616:=by omega
      have hkq:k+q<o.length:=by omega
      have ht:=hd2.get hkq;obtain ⟨T,hT⟩:=Int.eq_ofNat_of_zero_le ht.1;obtain ⟨C,rfl⟩:=Int.eq_ofNat_of_zero_le hc.1;have eck:chk .i64 ((k:Int)+(q:Int))=some ((k+q:Nat):Int):=by rw [Zka (by omega) (by omega)];simp
      rw [decide_eq_true (by omega),ZH,Z9 hqlt,Ze,hX,hY,ZMl hX' hY',Ze,eck,Ze,Z9 hkq,Ze,hT];rw [ZDi (by omega) (by omega) (by omega) (by omega),Ze,ZDi (by omega) (by omega) (by omega) (by omega),Ze,Ze,Z9 hkq,Ze,Zka (by omega) (by omega),Ze];have hb:=Zuq (x:=X) (y:=Y) (t:=T) (c:=C) (B1:=0) (by omega) (by omega) (by omega) (by omega);have hxy:X*Y≤340282366920938463426481119284349108225:=Nat.mul_le_mul (show X≤18446744073709551615 by omega) (show Y≤18446744073709551615 by omega);generalize hp:X*Y=p at *;have ecar:IntKind.u64.wrap (IntKind.u64.wrap (((p / 18446744073709551616:Nat):Int)+(((p%18446744073709551616:Nat):Int)+(T:Int)+0) / 18446744073709551616)+((((p%18446744073709551616:Nat):Int)+(T:Int)+0)%18446744073709551616+(C:Int)+0) / 18446744073709551616) =
        (((p+T+C) / 18446744073709551616:Nat):Int):=by
       rw [wrap_u64,wrap_u64];omega
      have edig:((((p%18446744073709551616:Nat):Int)+(T:Int)+0)%18446744073709551616+(C:Int)+0)%18446744073709551616=(((p+T+C)%18446744073709551616:Nat):Int):=by omega
      simp only [ecar,edig];refine ⟨_,rfl,⟨q+1,by simp,by omega,by simp [ho2],hd2.set _ (by omega),by simp only;omega,?_,?_⟩,by simp;omega⟩
      ·simp only [Int.toNat_natCast];have hs:=ZFg (B:=18446744073709551616) (l:=o) (i:=k+q) (x:=(((p+T+C)%18446744073709551616:Nat):Int)) hkq;rw [hT] at hs;simp only [Int.toNat_natCast] at hs hv2;rw [Zfc hqlt,hY];simp only [Int.toNat_natCast];rw [show k+(q+1)=k+q+1 by omega,Nat.pow_succ];exact ZSo hv2 hs (by rw [hp];omega) (Nat.pow_add _ _ _)
      ·intro j hj hj2;simp only [Int.toNat_natCast] at hj ⊢;rw [List.getElem_set_ne (by omega)];exact hz2 j (by simpa using hj) hj2
     ·right;rw [decide_eq_false (by omega),ZF];have hq':q=b.length:=by omega
      subst hq';rw [List.take_length] at hv2;exact ⟨_,rfl,ho2,hd2,hc,hv2,hz2⟩) Zga (out,(0:Int),(0:Int)) ⟨0,rfl,by omega,ho,hd,⟨Int.le_refl _,by show (0:Int)<18446744073709551616;omega⟩,by simp [val,hv],hz⟩ (Z1a (by simp;omega))
   rw [er,Ze,Ze];simp only at ho2 hd2 hc hv2 hz2 ⊢;have eck:chk .i64 ((k:Int)+(b.length:Int))=some ((k+b.length:Nat):Int):=by rw [Zka (by omega) (by omega)];simp
   have hkb:k+b.length<o.length:=by omega
   rw [eck,Ze,Z9 hkb,Ze,Zka (by omega) (by omega),Ze];refine ⟨_,rfl,⟨k+1,by simp,by omega,by simp [ho2],hd2.set _ hc,?_,?_⟩,by simp;omega⟩
   ·have hs:=ZFg (B:=18446744073709551616) (l:=o) (i:=k+b.length) (x:=c) hkb;rw [hz2 _ hkb (by omega)] at hs;simp only [Int.toNat_natCast] at hs ⊢;rw [Zfc hlt,hX];simp only [Int.toNat_natCast];simp at hs;rw [hs,hv2];grind
   ·intro j hj hj2;simp only [Int.toNat_natCast] at hj ⊢;rw [List.getElem_set_ne (by omega)];exact hz2 j (by simpa using hj) (by omega)
  ·right;rw [decide_eq_false (by omega),ZF];have hk':k=a.length:=by omega
   subst hk';rw [List.take_length,hvx,hvy] at hv;exact ⟨_,rfl,ho,hv⟩
 ·rintro out ⟨ho,hv⟩;rw [Ze];unfold Z0b;rw [hv,Ze]
theorem Zpp {n m z:Nat} (h:Z8c n m=some z):Zzi n m=some z:=by
 unfold Z8c at h;split at h
 ·rename_i hh;rw [Zor hh.1 hh.2,h]
 ·cases h
theorem ZAg {n k:Nat} (h:n≠0):bl n=k+1↔2^k≤n∧n<2^(k+1):=by
 unfold bl;rw [if_neg h,← Nat.log2_eq_iff h];omega
theorem Ztg {n:Nat} (h:n≠0):∃ k,bl n=k+1:=⟨Nat.log2 n,by unfold bl;rw [if_neg h]⟩
theorem Zef (n:Nat):n<2^bl n:=by
 by_cases h:n=0
 ·subst h;simp [bl]
 ·obtain ⟨k,hk⟩:=Ztg h;rw [hk];exact ((ZAg h).1 hk).2
theorem ZSc {n k:Nat} (h:n<2^k):bl n≤k:=by
 by_cases h0:n=0
 ·subst h0;simp [bl]
 ·obtain ⟨q,hq⟩:=Ztg h0;have:=((ZAg h0).1 hq).1;rw [hq];have h2:2^q<2^k:=by omega
  exact (Nat.pow_lt_pow_iff_right (by omega)).1 h2
theorem Zyh {n k:Nat} (h:2^k≤n):bl n=bl (n / 2^k)+k:=by
 have hp:0<2^k:=Nat.pow_pos (by omega);have h0:n / 2^k≠0:=by
  have:=(Nat.le_div_iff_mul_le hp (x:=1) (y:=n)).2 (by omega);omega
 obtain ⟨q,hq⟩:=Ztg h0;have h1:=(ZAg h0).1 hq;have hn:n≠0:=by omega
 rw [hq,show q+1+k=(q+k)+1 by omega,ZAg hn];constructor
 ·have:=Nat.mul_le_mul_right (2^k) h1.1;rw [← Nat.pow_add] at this;exact Nat.le_trans this (Nat.div_mul_le_self _ _)
 ·have:=(Nat.div_lt_iff_lt_mul hp).1 h1.2;rw [← Nat.pow_add] at this;rw [show q+k+1=q+1+k by omega];exact this
set_option maxRecDepth 10000 in
theorem ZTr:∀ i:Fin 256,([0,1,2,2,3,3,3,3,4,4,4,4,4,4,4,4,5,5,5,5,5,5,5,5,5,5,5,5,5,5,5,5,6,6,6,6,6,6,6,6,6,6,6,6,6,6,6,6,6,6,6,6,6,6,6,6,6,6,6,6,6,6,6,6,7,7,7,7,7,7,7,7,7,7,7,7,7,7,7,7,7,7,7,7,7,7,7,7,7,7,7,7,7,7,7,7,7,7,7,7,7,7,7,7,7,7,7,7,7,7,7,7,7,7,7,7,7,7,7,7,7,7,7,7,7,7,7,7,8,8,8,8,8,8,8,8,8,8,8,8,8,8,8,8,8,8,8,8,8,8,8,8,8,8,8,8,8,8,8,8,8,8,8,8,8,8,8,8,8,8,8,8,8,8,8,8,8,8,8,8,8,8,8,8,8,8,8,8,8,8,8,8,8,8,8,8,8,8,8,8,8,8,8,8,8,8,8,8,8,8,8,8,8,8,8,8,8,8,8,8,8,8,8,8,8,8,8,8,8,8,8,8,8,8,8,8,8,8,8,8,8,8,8,8,8,8,8,8,8,8,8,8,8,8,8,8]:List UInt8)[i.val]?.map (fun y=>y.toNat)=some (bl i.val):=by decide +kernel
set_option maxRecDepth 10000 in
theorem bl_idx {n:Nat} (h:n<256):∃ y,idx ([0,1,2,2,3,3,3,3,4,4,4,4,4,4,4,4,5,5,5,5,5,5,5,5,5,5,5,5,5,5,5,5,6,6,6,6,6,6,6,6,6,6,6,6,6,6,6,6,6,6,6,6,6,6,6,6,6,6,6,6,6,6,6,6,7,7,7,7,7,7,7,7,7,7,7,7,7,7,7,7,7,7,7,7,7,7,7,7,7,7,7,7,7,7,7,7,7,7,7,7,7,7,7,7,7,7,7,7,7,7,7,7,7,7,7,7,7,7,7,7,7,7,7,7,7,7,7,7,8,8,8,8,8,8,8,8,8,8,8,8,8,8,8,8,8,8,8,8,8,8,8,8,8,8,8,8,8,8,8,8,8,8,8,8,8,8,8,8,8,8,8,8,8,8,8,8,8,8,8,8,8,8,8,8,8,8,8,8,8,8,8,8,8,8,8,8,8,8,8,8,8,8,8,8,8,8,8,8,8,8,8,8,8,8,8,8,8,8,8,8,8,8,8,8,8,8,8,8,8,8,8,8,8,8,8,8,8,8,8,8,8,8,8,8,8,8,8,8,8,8,8,8,8,8,8,8]:List UInt8) (n:Int)=some y∧y.toNat=bl n:=by
 have:=ZTr ⟨n,h⟩;obtain ⟨y,e,h2⟩:=Option.map_eq_some_iff.1 this;exact ⟨y,by simp only [idx,Int.toNat_natCast];rw [if_pos (by omega)];exact e,h2⟩
set_option maxRecDepth 10000 in
theorem Z6s {n:Nat} (hn:n<18446744073709551616):ZYh (n:Int)=some (bl n:Int):=by
 unfold ZYh;have sh:∀ (n k:Nat),k≤64→ZUa .u64 (n:Int) (k:Int)=some ((n / 2^k:Nat):Int):=fun n k h=>by rw [Zal (by omega) h];simp
 have s32:∀ n:Nat,ZUa .u64 (n:Int) 32=some ((n / 4294967296:Nat):Int):=fun n=>sh n 32 (by omega);have s16:∀ n:Nat,ZUa .u64 (n:Int) 16=some ((n / 65536:Nat):Int):=fun n=>sh n 16 (by omega);have s8:∀ n:Nat,ZUa .u64 (n:Int) 8=some ((n / 256:Nat):Int):=fun n=>sh n 8 (by omega);obtain ⟨n1,k1,e1,h1,b1,l1⟩:∃ n1 k1:Nat,ifb (decide ((4294967296:Int)≤(n:Int))) (bnd (ZUa .u64 (n:Int) 32) fun y=>some (y,(32:Int))) (some ((n:Int),0))=some ((n1:Int),(k1:Int))∧n1<4294967296∧bl n=bl n1+k1∧k1≤32:=by
  by_cases h:4294967296≤n
  ·exact ⟨n / 4294967296,32,by rw [decide_eq_true (by omega),ZH,s32];rfl,by omega,Zyh (k:=32) h,by omega⟩
  ·exact ⟨n,0,by rw [decide_eq_false (by omega)];rfl,by omega,rfl,by omega⟩
 rw [e1,Ze];simp only;obtain ⟨n2,k2,e2,h2,b2,l2⟩:∃ n2 k2:Nat,ifb (decide ((65536:Int)≤(n1:Int))) (bnd (ZUa .u64 (n1:Int) 16) fun y=>bnd (chk .i64 ((k1:Int)+16)) fun z=>some (y,z)) (some ((n1:Int),(k1:Int)))=some ((n2:Int),(k2:Int))∧n2<65536∧bl n=bl n2+k2∧k2≤48:=by
  by_cases h:65536≤n1
  ·exact ⟨n1 / 65536,k1+16,by rw [decide_eq_true (by omega),ZH,s16,Ze,Zka (by omega) (by omega)];rfl,by omega,by rw [b1,Zyh (k:=16) h];simp;omega,by omega⟩
  ·exact ⟨n1,k1,by rw [decide_eq_false (by omega)];rfl,by omega,b1,by omega⟩
 rw [e2,Ze];simp only;obtain ⟨n3,k3,e3,h3,b3,l3⟩:∃ n3 k3:Nat,ifb (decide ((256:Int)≤(n2:Int))) (bnd (ZUa .u64 (n2:Int) 8) fun y=>bnd (chk .i64 ((k2:Int)+8)) fun z=>some (y,z)) (some ((n2:Int),(k2:Int)))=some ((n3:Int),(k3:Int))∧n3<256∧bl n=bl n3+k3∧k3≤56:=by
  by_cases h:256≤n2
  ·exact ⟨n2 / 256,k2+8,by rw [decide_eq_true (by omega),ZH,s8,Ze,Zka (by omega) (by omega)];rfl,by omega,by rw [b2,Zyh (k:=8) h];simp;omega,by omega⟩
  ·exact ⟨n2,k2,by rw [decide_eq_false (by omega)];rfl,by omega,b2,by omega⟩
 rw [e3,Ze];simp only;have hw:IntKind.u8.wrap (n3:Int)=(n3:Int):=by
  simp [IntKind.wrap,IntKind.signed,IntKind.bits];omega
 rw [hw];obtain ⟨y,ey,hy⟩:=bl_idx h3;have hb:bl n3≤8:=ZSc h3;rw [ey,Ze,Zxg (Zqc.2 ⟨by omega,by omega⟩),Zka (by omega) (by omega),Ze,b3,hy];congr 1;omega
theorem Zpq {x z:Int} (h:Zsi x=some z):ZYh x=some z:=by
 unfold Zsi at h;split at h
 ·rename_i hh;obtain ⟨n,rfl⟩:=Int.eq_ofNat_of_zero_le hh.1;rw [Z6s (by omega),← h];simp
 ·cases h
noncomputable def ZCj (x:Int):Option (Int) :=
 bnd (Zsi x) fun a =>
 bnd (chk .i64 ((64:Int)-a)) fun b =>
 some b
theorem ZUq {x z:Int} (h:ZYe x=some z):ZCj x=some z:=by
 unfold ZYe at h;split at h
 ·rename_i hh;have hb:bl x.toNat≤64:=ZSc (by omega);unfold ZCj Zsi;rw [if_pos hh,Ze,Zka (by omega) (by omega),Ze,h]
 ·cases h
noncomputable def ZEi (hi:Int) (lo:Int) (y:Int):Option (Int×Int) :=
 ifb (y==(0:Int))
  (none)
 (ifb (decide (y≤hi))
  (none)
 (ifb (hi==(0:Int))
 (bnd (quo .u64 lo y) fun p =>
 bnd (rem .u64 lo y) fun q =>
 some ((p,q)))
 (bnd (ZYe y) fun c =>
 bnd (Zic .u64 y (IntKind.u64.wrap c)) fun b =>
 bnd (ZUa .u64 b (32:Int)) fun a =>
 bnd (Zic .u64 hi (IntKind.u64.wrap c)) fun d =>
 bnd (ZUa .u64 lo (IntKind.u64.wrap ((64:Int)-(IntKind.u64.wrap c)))) fun e =>
 bnd (Zic .u64 lo (IntKind.u64.wrap c)) fun j =>
 bnd (ZUa .u64 j (32:Int)) fun h =>
 bnd (quo .u64 (orI .u64 d e) a) fun m =>
 bnd (bnd (Z7 (fun s:Int×Int=>match s with
 | (f,k) =>
 (bnd (ifb (decide ((4294967296:Int)≤f))
 (some true)
 (some (decide (IntKind.u64.wrap ((IntKind.u64.wrap ((4294967296:Int)*k))+h)<IntKind.u64.wrap (f*(Z8a .u64 b (4294967295:Int)))))))
 (fun (r:Bool) =>
 (ifb (r)
 (ifb (decide ((4294967296:Int)≤IntKind.u64.wrap (k+a)))
 (some (.inr (IntKind.u64.wrap (f-(1:Int)))))
 (some (.inl ((IntKind.u64.wrap (f-(1:Int)),IntKind.u64.wrap (k+a))))))
 (some (.inr f)))))) Zga ((m,IntKind.u64.wrap ((orI .u64 d e)-(IntKind.u64.wrap (m*a))))))
 (fun (t:Int) =>
 (some t)))
 (fun (i:Int) =>
 (bnd (quo .u64 (IntKind.u64.wrap ((IntKind.u64.wrap ((IntKind.u64.wrap ((orI .u64 d e)*(4294967296:Int)))+h))-(IntKind.u64.wrap (i*b)))) a) fun n =>
 bnd (bnd (Z7 (fun s:Int×Int=>match s with
 | (l,g) =>
 (bnd (ifb (decide ((4294967296:Int)≤g))
 (some true)
 (some (decide (IntKind.u64.wrap ((IntKind.u64.wrap ((4294967296:Int)*l))+(Z8a .u64 j (4294967295:Int)))<IntKind.u64.wrap (g*(Z8a .u64 b (4294967295:Int)))))))
 (fun (u:Bool) =>
 (ifb (u)
 (ifb (decide ((4294967296:Int)≤IntKind.u64.wrap (l+a)))
 (some (.inr (IntKind.u64.wrap (g-(1:Int)))))
 (some (.inl ((IntKind.u64.wrap (l+a),IntKind.u64.wrap (g-(1:Int)))))))
 (some (.inr g)))))) Zga ((IntKind.u64.wrap ((IntKind.u64.wrap ((IntKind.u64.wrap ((IntKind.u64.wrap ((orI .u64 d e)*(4294967296:Int)))+h))-(IntKind.u64.wrap (i*b))))-(IntKind.u64.wrap (n*a))),n)))
 (fun (v:Int) =>
 (some v)))
 (fun (o:Int) =>
 (bnd (ZUa .u64 (IntKind.u64.wrap ((IntKind.u64.wrap ((IntKind.u64.wrap ((IntKind.u64.wrap ((IntKind.u64.wrap ((IntKind.u64.wrap ((orI .u64 d e)*(4294967296:Int)))+h))-(IntKind.u64.wrap (i*b))))*(4294967296:Int)))+(Z8a .u64 j (4294967295:Int))))-(IntKind.u64.wrap (o*b)))) (IntKind.u64.wrap c)) fun w =>
 some ((IntKind.u64.wrap ((IntKind.u64.wrap (i*(4294967296:Int)))+o),w)))))))))
theorem Z5e {x k:Nat} (hk:k≤64):Zic .u64 (x:Int) (k:Int)=some ((x*2^k%18446744073709551616:Nat):Int):=by
 unfold Zic;rw [if_neg (by omega)];have:min ((k:Int).toNat) IntKind.u64.bits=k:=by simp [IntKind.bits];omega
 rw [this,wrap_u64];simp
theorem Zme {x k:Nat} (hk:k≤64):ZUa .u64 (x:Int) (k:Int)=some ((x / 2^k:Nat):Int):=by
 rw [Zal (by omega) hk];simp
theorem Zag {a c k:Nat} (hc:c<2^k) (ha:a*2^k+c<18446744073709551616):orI .u64 ((a*2^k:Nat):Int) (c:Int)=((a*2^k+c:Nat):Int):=by
 unfold orI;have h1:(BitVec.ofInt IntKind.u64.bits ((a*2^k:Nat):Int) ||| BitVec.ofInt IntKind.u64.bits (c:Int)).toNat=a*2^k+c:=by
  rw [BitVec.toNat_or];have e1:(BitVec.ofInt IntKind.u64.bits ((a*2^k:Nat):Int)).toNat=a*2^k:=by
   show (BitVec.ofInt 64 ((a*2^k:Nat):Int)).toNat=a*2^k;rw [BitVec.toNat_ofInt];generalize a*2^k=z at *;simp;omega
  have e2:(BitVec.ofInt IntKind.u64.bits (c:Int)).toNat=c:=by
   show (BitVec.ofInt 64 (c:Int)).toNat=c;rw [BitVec.toNat_ofInt];generalize a*2^k=z at *;simp;omega
  rw [e1,e2,Nat.mul_comm a,← Nat.two_pow_add_eq_or_of_lt hc]
 rw [h1,wrap_u64];generalize a*2^k+c=z at *;omega
theorem Z0n {u d q r y1 y0 Y:Nat} (hY:Y=y1*4294967296+y0) (hu:u=q*y1+r) (h:q*y0≤4294967296*r+d):q*Y≤u*4294967296+d:=by
 subst hY hu;grind
theorem ZDr {u d q r y1 y0 Y:Nat} (hY:Y=y1*4294967296+y0) (hu:u=q*y1+r) (h:4294967296*r+d<q*y0):u*4294967296+d<q*Y:=by
 subst hY hu;grind
theorem Z3p {u d y1 y0 Y q:Nat} (hY:Y=y1*4294967296+y0) (hy:2147483648≤y1) (hy0:y0<4294967296) (huY:u<Y) (hq:q*y1≤u):q≤4294967297:=by
 rcases Nat.lt_or_ge 4294967297 q with h | h
 ·have h1:4294967298*y1≤q*y1:=Nat.mul_le_mul_right _ h;omega
 ·exact h
theorem Zse {n:Nat} (h:n<18446744073709551616):IntKind.u64.wrap (n:Int)=(n:Int):=by rw [wrap_u64];omega
structure Half (u d y1 y0 Y:Nat):Prop where
 eY:Y=y1*4294967296+y0
 h1:2147483648≤y1
 h1':y1<4294967296
 h0:y0<4294967296
 hd:d<4294967296
 hu:u<Y
theorem Zto {u d y1 y0 Y q r:Nat} (H:Half u d y1 y0 Y) (e:u=q*y1+r) (hr:r<4294967296) (hQ:(u*4294967296+d) / Y≤q) :
  (q<4294967296∧q*y0≤4294967296*r+d∧q=(u*4294967296+d) / Y) ∨
  ((4294967296≤q∨q<4294967296∧4294967296*r+d<q*y0)∧0<q∧(u*4294967296+d) / Y≤q-1∧u=(q-1)*y1+(r+y1)∧(4294967296≤r+y1→q-1=(u*4294967296+d) / Y)):=by
 obtain ⟨eY,h1,h1',h0,hd,hu⟩:=H;have hY:0<Y:=by omega
 have hQ1:∀ q,q*Y≤u*4294967296+d→q≤(u*4294967296+d) / Y:=fun q h=>(Nat.le_div_iff_mul_le hY).2 h;have hQ2:∀ q,u*4294967296+d<q*Y→(u*4294967296+d) / Y<q:=fun q h=>(Nat.div_lt_iff_lt_mul hY).2 h;have hQb:(u*4294967296+d) / Y<4294967296:=by
  apply hQ2;have:(u+1)*4294967296≤Y*4294967296:=Nat.mul_le_mul_right _ hu;rw [Nat.mul_comm 4294967296 Y];omega
 generalize (u*4294967296+d) / Y=Q at *;by_cases hc:q<4294967296∧q*y0≤4294967296*r+d
 ·left;refine ⟨hc.1,hc.2,?_⟩;have:=hQ1 q (Z0n eY e hc.2);omega
 ·right;have hlt:Q<q:=by
   by_cases hq:q<4294967296
   ·exact hQ2 q (ZDr eY e (by omega))
   ·omega
  have hq1:q*y1≤u:=by omega
  have hqb:=Z3p (d:=d) eY h1 h0 hu hq1;have e2:u=(q-1)*y1+(r+y1):=by
   obtain ⟨p,rfl⟩:∃ p,q=p+1:=⟨q-1,by omega⟩;rw [e,Nat.succ_mul];simp;omega
  refine ⟨by omega,by omega,by omega,e2,fun h=>?_⟩;have h3:(q-1)*y0≤4294967296*4294967295:=Nat.mul_le_mul (by omega) (by omega);have:=hQ1 _ (Z0n (d:=d) eY e2 (by omega));omega
theorem Zwm {u d q Y:Nat} (hq:q=(u*4294967296+d) / Y) (hY:Y<18446744073709551616) (hY0:0<Y) :
  IntKind.u64.wrap (IntKind.u64.wrap (IntKind.u64.wrap ((u:Int)*4294967296)+(d:Int))-IntKind.u64.wrap ((q:Int)*(Y:Int)))=(((u*4294967296+d)%Y:Nat):Int):=by
 have h1:=Nat.div_add_mod (u*4294967296+d) Y;have h2:=Nat.mod_lt (u*4294967296+d) hY0;rw [← hq,Nat.mul_comm] at h1;rw [← Int.natCast_mul q Y];generalize q*Y=p at *;generalize (u*4294967296+d)%Y=m at *;simp only [wrap_u64];omega
theorem Zdh {p q:Nat} (hq:0<q) (hp:p<18446744073709551616):quo .u64 (p:Int) (q:Int)=some ((p / q:Nat):Int):=by
 unfold quo;rw [if_neg (by omega)];have e:(p:Int).tdiv (q:Int)=((p / q:Nat):Int):=by simp [Int.tdiv_eq_ediv_of_nonneg]
 have h:p / q≤p:=Nat.div_le_self _ _;generalize p / q=r at *;rw [e,ZWk (Znf.2 ⟨by omega,by omega⟩)]
theorem ZRf {k:IntKind} {p q:Nat} (hq:0<q):rem k (p:Int) (q:Int)=some ((p%q:Nat):Int):=by
 unfold rem;rw [if_neg (by omega)];simp [Int.tmod_eq_emod_of_nonneg]
theorem Zhr {H L y s Y:Nat} (hH:H<y) (hL:L<18446744073709551616) (hs:s≤63) (hY:Y=y*2^s) (hY':Y<18446744073709551616) :
  H*2^s%18446744073709551616=H*2^s∧L / 2^(64-s)<2^s∧H*2^s+L / 2^(64-s)<Y∧(H*2^s+L / 2^(64-s))*18446744073709551616+L*2^s%18446744073709551616=(H*18446744073709551616+L)*2^s:=by
 have e64:2^(64-s)*2^s=18446744073709551616:=by rw [← Nat.pow_add,show 64-s+s=64 by omega]
 have hp:0<2^s:=Nat.pow_pos (by omega);have hp2:0<2^(64-s):=Nat.pow_pos (by omega);have h1:(H+1)*2^s≤Y:=by rw [hY];exact Nat.mul_le_mul_right _ hH
 rw [Nat.add_mul,Nat.one_mul] at h1;have h2:L / 2^(64-s)<2^s:=by rw [Nat.div_lt_iff_lt_mul hp2,Nat.mul_comm,e64];exact hL
 have h3:L*2^s / 18446744073709551616=L / 2^(64-s):=by
  rw [← e64,Nat.mul_div_mul_right _ _ hp]
 have h4:=Nat.div_add_mod (L*2^s) 18446744073709551616;rw [h3] at h4;refine ⟨Nat.mod_eq_of_lt (by omega),h2,by omega,?_⟩;rw [Nat.add_mul (H*18446744073709551616),Nat.mul_right_comm H];omega
theorem ZAm {q r y0 d Y:Nat} (y1:Nat) (hY:Y%4294967296=y0) (hY':Y<18446744073709551616) (hr:r<4294967296) (hd:d<4294967296) :
  ifb (decide ((4294967296:Int)≤(q:Int))) (some true) (some (decide (IntKind.u64.wrap ((IntKind.u64.wrap (((4294967296:Int))*(r:Int)))+(d:Int))<IntKind.u64.wrap ((q:Int)*(Z8a .u64 (Y:Int) ((4294967295:Int))))))) =
  some (decide (4294967296≤q∨q<4294967296∧4294967296*r+d<q*y0)):=by
 by_cases h:4294967296≤q
 ·rw [decide_eq_true (by omega),ZH,decide_eq_true (.inl h)]
 ·rw [decide_eq_false (by omega),ZF];have h1:q*y0≤4294967295*4294967295:=Nat.mul_le_mul (by omega) (by omega);have e1:((4294967296:Int))*(r:Int)=((4294967296*r:Nat):Int):=by simp
  rw [Zpg _ hY',hY,← Int.natCast_mul q y0,Zse (by omega),e1,Zse (by omega),← Int.natCast_add,Zse (by omega)];congr 1;apply decide_eq_decide.2;omega
theorem Z9p {H L y:Nat} (hL:L<18446744073709551616) (hH:H<y) (hy:y<18446744073709551616) :
  ZEi (H:Int) (L:Int) (y:Int)=some ((((H*18446744073709551616+L) / y:Nat):Int),(((H*18446744073709551616+L)%y:Nat):Int)):=by
 unfold ZEi;have e1:((y:Int)==0)=false:=by simp;omega
 rw [e1,ZF,decide_eq_false (by omega),ZF];by_cases hH0:H=0
 ·subst hH0;rw [show (((0:Nat):Int)==0)=true from rfl,ZH,Zdh (by omega) hL,Ze,ZRf (by omega),Ze];simp
 have e2:((H:Int)==0)=false:=by simp;omega
 have hy0:y≠0:=by omega
 obtain ⟨k,hk⟩:=Ztg hy0;have hbl:bl y≤64:=ZSc (by omega);obtain ⟨hy1,hy2⟩:=(ZAg hy0).1 hk;have hz:ZYe (y:Int)=some ((64-bl y:Nat):Int):=by
  unfold ZYe;rw [if_pos ⟨by omega,by omega⟩];congr 1;simp;omega
 rw [e2,ZF,hz,Ze];obtain ⟨s,hs⟩:∃ s,s=64-bl y:=⟨_,rfl⟩;rw [← hs,Zse (n:=s) (by omega)];have e64s:IntKind.u64.wrap (((64:Int))-(s:Int))=((64-s:Nat):Int):=by rw [wrap_u64];omega
 rw [e64s];have eY:y*2^s<18446744073709551616:=by
  have:=Nat.mul_lt_mul_of_pos_right hy2 (Nat.pow_pos (n:=s) (show 0<2 by omega));rw [← Nat.pow_add,show k+1+s=64 by omega] at this;exact this
 have eY2:9223372036854775808≤y*2^s:=by
  have:=Nat.mul_le_mul_right (2^s) hy1;rw [← Nat.pow_add,show k+s=63 by omega] at this;exact this
 obtain ⟨p1,p2,p3,p4⟩:=Zhr (s:=s) hH hL (by omega) rfl eY;rw [Z5e (by omega),Ze,Nat.mod_eq_of_lt eY];have sh32:∀ n:Nat,ZUa .u64 (n:Int) 32=some ((n / 4294967296:Nat):Int):=fun n=>Zme (x:=n) (k:=32) (by omega);rw [sh32,Ze,Z5e (by omega),Ze,p1,Zme (by omega),Ze,Z5e (by omega),Ze,sh32,Ze,Zag p2 (by omega)];obtain ⟨Y,hY⟩:∃ Y,Y=y*2^s:=⟨_,rfl⟩;obtain ⟨u,hu⟩:∃ u,u=H*2^s+L / 2^(64-s):=⟨_,rfl⟩;obtain ⟨t,ht⟩:∃ t,t=L*2^s%18446744073709551616:=⟨_,rfl⟩;have ht':t<18446744073709551616:=by rw [ht];exact Nat.mod_lt _ (by omega)
 rw [← hY] at eY eY2 p3 ⊢;rw [← hu] at p3 p4 ⊢;rw [← ht] at p4 ⊢;have H1:Half u (t / 4294967296) (Y / 4294967296) (Y%4294967296) Y:=⟨by omega,by omega,by omega,by omega,by omega,p3⟩;have hY0:0<Y:=by omega
 have hy10:0<Y / 4294967296:=by omega
 rw [Zdh (by omega) (by omega),Ze,Zab];have eU:∀ u:Nat,u<Y→IntKind.u64.wrap ((u:Int)-IntKind.u64.wrap (((u / (Y / 4294967296):Nat):Int)*((Y / 4294967296:Nat):Int)))=((u%(Y / 4294967296):Nat):Int):=by
  intro u hu;have h1:=Nat.div_add_mod u (Y / 4294967296);rw [Nat.mul_comm] at h1;rw [← Int.natCast_mul];generalize u / (Y / 4294967296)*(Y / 4294967296)=g at *;generalize u%(Y / 4294967296)=m at *;rw [Zse (n:=g) (by omega),wrap_u64];omega
 have eDiv:∀ u d:Nat,u<Y→d<4294967296→(u*4294967296+d) / Y≤u / (Y / 4294967296):=by
  intro u d hu hd;have h1:=Nat.div_add_mod Y 4294967296;apply (Nat.le_div_iff_mul_le hy10).2;have h2:=Nat.div_mul_le_self (u*4294967296+d) Y;generalize (u*4294967296+d) / Y=Q at *;have h3:Q*(Y / 4294967296*4294967296)≤Q*Y:=Nat.mul_le_mul_left _ (by omega);rw [← Nat.mul_assoc] at h3;generalize Q*(Y / 4294967296)=g at *;omega
 have eW:∀ q:Nat,0<q→q<18446744073709551616→IntKind.u64.wrap ((q:Int)-1)=((q-1:Nat):Int):=by
  intro q h1 h2;rw [wrap_u64];omega
 have eR:∀ r:Nat,r<4294967296→IntKind.u64.wrap ((r:Int)+((Y / 4294967296:Nat):Int))=((r+Y / 4294967296:Nat):Int):=by
  intro r h1;rw [← Int.natCast_add,Zse (by omega)]
 rw [eU u p3];refine Znb (fun s:Int×Int=>∃ q r:Nat,s=((q:Int),(r:Int))∧u=q*(Y / 4294967296)+r∧r<4294967296∧(u*4294967296+t / 4294967296) / Y≤q∧q<18446744073709551616) (fun s=>s.1.toNat)
  (fun r:Int=>r=(((u*4294967296+t / 4294967296) / Y:Nat):Int))
  ⟨u / (Y / 4294967296),u%(Y / 4294967296),rfl,by rw [Nat.mul_comm];exact (Nat.div_add_mod _ _).symm,Nat.lt_trans (Nat.mod_lt _ hy10) (by omega),eDiv u _ p3 (by omega),Nat.lt_of_le_of_lt (Nat.div_le_self _ _) (by omega)⟩
  (Z1a (by simp only [Int.toNat_natCast];exact Nat.lt_of_le_of_lt (Nat.div_le_self _ _) (by omega))) ?_ ?_
 ·rintro _ ⟨q,r,rfl,e,hr,hQ,hq64⟩;simp only;rw [ZAm (y0:=Y%4294967296) 0 rfl eY hr (by omega),Ze];rcases Zto H1 e hr hQ with ⟨h1,h2,h3⟩ | ⟨h1,h2,h3,h4,h5⟩
  ·right;rw [decide_eq_false (by omega),ZF];exact ⟨_,rfl,by rw [h3]⟩
  ·rw [decide_eq_true h1,ZH,eR r hr,eW q h2 hq64];by_cases hb:4294967296≤r+Y / 4294967296
   ·right;rw [decide_eq_true (by omega),ZH];exact ⟨_,rfl,by rw [h5 hb]⟩
   ·left;rw [decide_eq_false (by omega),ZF];exact ⟨_,rfl,⟨q-1,r+Y / 4294967296,rfl,h4,by omega,h3,by omega⟩,by simp;omega⟩
 rintro _ rfl;rw [Ze];obtain ⟨Q1,hQ1⟩:∃ Q,Q=(u*4294967296+t / 4294967296) / Y:=⟨_,rfl⟩;have hQ1b:Q1<4294967296:=by
  rw [hQ1,Nat.div_lt_iff_lt_mul hY0];have:(u+1)*4294967296≤Y*4294967296:=Nat.mul_le_mul_right _ p3;rw [Nat.mul_comm 4294967296 Y];omega
 have er1:=Zwm hQ1 eY hY0;rw [← hQ1];have ecm:∀ z:Int,z*((4294967296:Int))=z*4294967296:=fun _=>rfl;rw [er1];obtain ⟨v,hv⟩:∃ v,v=(u*4294967296+t / 4294967296)%Y:=⟨_,rfl⟩;have hvY:v<Y:=by rw [hv];exact Nat.mod_lt _ hY0
 rw [← hv];have H2:Half v (t%4294967296) (Y / 4294967296) (Y%4294967296) Y:=⟨by omega,by omega,by omega,by omega,by omega,hvY⟩;rw [Zdh (by omega) (by omega),Ze,Zab,eU v hvY,Zpg t ht'];refine Znb (fun s:Int×Int=>∃ q r:Nat,s=((r:Int),(q:Int))∧v=q*(Y / 4294967296)+r∧r<4294967296∧(v*4294967296+t%4294967296) / Y≤q∧q<18446744073709551616) (fun s=>s.2.toNat)
  (fun r:Int=>r=(((v*4294967296+t%4294967296) / Y:Nat):Int))
  ⟨v / (Y / 4294967296),v%(Y / 4294967296),rfl,by rw [Nat.mul_comm];exact (Nat.div_add_mod _ _).symm,Nat.lt_trans (Nat.mod_lt _ hy10) (by omega),eDiv v _ hvY (by omega),Nat.lt_of_le_of_lt (Nat.div_le_self _ _) (by omega)⟩
  (Z1a (by simp only [Int.toNat_natCast];exact Nat.lt_of_le_of_lt (Nat.div_le_self _ _) (by omega))) ?_ ?_
 ·rintro _ ⟨q,r,rfl,e,hr,hQ,hq64⟩;simp only;rw [ZAm (y0:=Y%4294967296) 0 rfl eY hr (by omega),Ze];rcases Zto H2 e hr hQ with ⟨h1,h2,h3⟩ | ⟨h1,h2,h3,h4,h5⟩
  ·right;rw [decide_eq_false (by omega),ZF];exact ⟨_,rfl,by rw [h3]⟩
  ·rw [decide_eq_true h1,ZH,eR r hr,eW q h2 hq64];by_cases hb:4294967296≤r+Y / 4294967296
   ·right;rw [decide_eq_true (by omega),ZH];exact ⟨_,rfl,by rw [h5 hb]⟩
   ·left;rw [decide_eq_false (by omega),ZF];exact ⟨_,rfl,⟨q-1,r+Y / 4294967296,rfl,h4,by omega,h3,by omega⟩,by simp;omega⟩
 rintro _ rfl;rw [Ze];obtain ⟨Q0,hQ0⟩:∃ Q,Q=(v*4294967296+t%4294967296) / Y:=⟨_,rfl⟩;have hQ0b:Q0<4294967296:=by
  rw [hQ0,Nat.div_lt_iff_lt_mul hY0];have:(v+1)*4294967296≤Y*4294967296:=Nat.mul_le_mul_right _ hvY;rw [Nat.mul_comm 4294967296 Y];omega
 have er2:=Zwm hQ0 eY hY0;rw [← hQ0,er2,Zme (by omega),Ze];have hd1:=Nat.div_add_mod (u*4294967296+t / 4294967296) Y;have hd2:=Nat.div_add_mod (v*4294967296+t%4294967296) Y;have hm2:=Nat.mod_lt (v*4294967296+t%4294967296) hY0;rw [← hQ1,← hv] at hd1;rw [← hQ0] at hd2;obtain ⟨w,hw⟩:∃ w,w=(v*4294967296+t%4294967296)%Y:=⟨_,rfl⟩;rw [← hw] at hd2 hm2 ⊢;have hN:(H*18446744073709551616+L)*2^s=Y*(Q1*4294967296+Q0)+w:=by
  rw [← p4,Nat.mul_add,← Nat.mul_assoc];generalize Y*Q1=g at *;generalize Y*Q0=g' at *;omega
 have hp:0<2^s:=Nat.pow_pos (by omega);have hMy:(H*18446744073709551616+L) / y=Q1*4294967296+Q0:=by
  have h1:=Nat.mul_div_mul_right (H*18446744073709551616+L) y hp;rw [← hY,hN,Nat.mul_add_div hY0,Nat.div_eq_of_lt hm2,Nat.add_zero] at h1;exact h1.symm
 have hMm:(H*18446744073709551616+L)%y*2^s=w:=by
  have h1:=Nat.mul_mod_mul_right (2^s) (H*18446744073709551616+L) y;rw [← hY,hN,Nat.mul_add_mod,Nat.mod_eq_of_lt hm2] at h1;exact h1.symm
 rw [hMy,← hMm,Nat.mul_div_cancel _ hp];have:IntKind.u64.wrap (IntKind.u64.wrap ((Q1:Int)*4294967296)+(Q0:Int))=((Q1*4294967296+Q0:Nat):Int):=by
  simp only [wrap_u64];omega
 rw [this]
theorem Zqp {hi lo y:Int} {z:Int×Int} (h:Zre hi lo y=some z):ZEi hi lo y=some z:=by
 unfold Zre at h;split at h
 ·rename_i hh;obtain ⟨h1,h2,h3,h4,h5⟩:=hh;obtain ⟨H,rfl⟩:=Int.eq_ofNat_of_zero_le h1;obtain ⟨L,rfl⟩:=Int.eq_ofNat_of_zero_le h2;obtain ⟨Y,rfl⟩:=Int.eq_ofNat_of_zero_le (show 0≤y by omega);rw [Z9p (by omega) (by omega) (by omega),← h];simp
 ·cases h
noncomputable def Zpi (a:Nat) (n:Int):Option (Nat×Int) :=
 bnd (mk 8 ((((Zm 18446744073709551616 a)).length:Int)) ((((Zm 18446744073709551616 a)).length:Int))) fun o =>
 bnd (chk .i64 (((((Zm 18446744073709551616 a)).length:Int))-(1:Int))) fun f =>
 bnd (bnd (Z7 (fun s:(List Int)×Int×Int=>match s with
 | (c,d,b) =>
 (ifb (decide ((0:Int)≤b))
 (bnd (idx ((Zm 18446744073709551616 a)) b) fun g =>
 bnd (Zre d g n) fun e =>
 bnd (idx c b) fun q =>
 bnd (chk .i64 (b-(1:Int))) fun h =>
 some (.inl (((c.set (b).toNat e.1),e.2,h))))
 (some (.inr ((c,d)))))) Zga (((List.replicate ((((Zm 18446744073709551616 a)).length:Int)).toNat (0:Int)),(0:Int),f)))
 (fun (p:(List Int)×Int)=>match p with
 | (i,j) =>
 (some ((i,j)))))
 (fun (p:(List Int)×Int)=>match p with
 | (k,l) =>
 (bnd (Z0b k) fun m =>
 some ((m,l))))
noncomputable def ZHi (a:Nat) (n:Int):Option (Nat) :=
 bnd (ifb (((((Zm 18446744073709551616 a)).length:Int))==(0:Int))
 (some true)
 (some (n==(0:Int))))
 (fun (j:Bool) =>
 (ifb (j)
 (some a)
 (bnd (quo .i64 n (64:Int)) fun k =>
 bnd (chk .i64 (((((Zm 18446744073709551616 a)).length:Int))+k)) fun l =>
 bnd (chk .i64 (l+(1:Int))) fun e =>
 bnd (mk 8 e e) fun z =>
 bnd (bnd (Z7 (fun s:(List Int)×Int=>match s with
 | (b,c) =>
 (ifb (decide (c<(((Zm 18446744073709551616 a)).length:Int)))
 (bnd (idx ((Zm 18446744073709551616 a)) c) fun f =>
 bnd (quo .i64 n (64:Int)) fun m =>
 bnd (chk .i64 (c+m)) fun d =>
 bnd (idx b d) fun g =>
 bnd (rem .i64 n (64:Int)) fun o =>
 bnd (Zic .u64 f o) fun h =>
 bnd (idx b d) fun A =>
 bnd (quo .i64 n (64:Int)) fun p =>
 bnd (chk .i64 (c+p)) fun q =>
 bnd (chk .i64 (q+(1:Int))) fun i =>
 bnd (rem .i64 n (64:Int)) fun r =>
 bnd (chk .i64 ((64:Int)-r)) fun t =>
 bnd (ZUa .u64 f t) fun u =>
 bnd (idx ((b.set (d).toNat (orI .u64 g h))) i) fun B =>
 bnd (chk .i64 (c+(1:Int))) fun v =>
 some (.inl (((((b.set (d).toNat (orI .u64 g h))).set (i).toNat u),v))))
 (some (.inr b)))) Zga (((List.replicate (e).toNat (0:Int)),(0:Int))))
 (fun (w:(List Int)) =>
 (some w)))
 (fun (x:(List Int)) =>
 (bnd (Z0b x) fun y =>
 some y)))))
noncomputable def Zki (a:Nat) (n:Int):Option (Nat) :=
 bnd (quo .i64 n (64:Int)) fun f =>
 ifb (decide ((((Zm 18446744073709551616 a)).length:Int)≤f))
 (some ((0:Nat)))
 (bnd (quo .i64 n (64:Int)) fun g =>
 bnd (chk .i64 (((((Zm 18446744073709551616 a)).length:Int))-g)) fun d =>
 bnd (mk 8 d d) fun D =>
 bnd (bnd (Z7 (fun s:(List Int)×Int=>match s with
 | (c,b) =>
 (ifb (decide (b<(((List.replicate (d).toNat (0:Int))).length:Int)))
 (bnd (quo .i64 n (64:Int)) fun h =>
 bnd (chk .i64 (b+h)) fun i =>
 bnd (idx ((Zm 18446744073709551616 a)) i) fun j =>
 bnd (rem .i64 n (64:Int)) fun k =>
 bnd (ZUa .u64 j k) fun e =>
 bnd (idx c b) fun E =>
 bnd (quo .i64 n (64:Int)) fun l =>
 bnd (chk .i64 (b+l)) fun m =>
 bnd (chk .i64 (m+(1:Int))) fun o =>
 bnd (ifb (decide (o<(((Zm 18446744073709551616 a)).length:Int)))
 (bnd (idx ((c.set (b).toNat e)) b) fun p =>
 bnd (quo .i64 n (64:Int)) fun q =>
 bnd (chk .i64 (b+q)) fun r =>
 bnd (chk .i64 (r+(1:Int))) fun t =>
 bnd (idx ((Zm 18446744073709551616 a)) t) fun u =>
 bnd (rem .i64 n (64:Int)) fun v =>
 bnd (chk .i64 ((64:Int)-v)) fun w =>
 bnd (Zic .u64 u w) fun x =>
 bnd (idx ((c.set (b).toNat e)) b) fun F =>
 some ((((c.set (b).toNat e)).set (b).toNat (orI .u64 p x))))
 (some ((c.set (b).toNat e))))
 (fun (y:(List Int)) =>
 (bnd (chk .i64 (b+(1:Int))) fun z =>
 some (.inl ((y,z))))))
 (some (.inr c)))) Zga (((List.replicate (d).toNat (0:Int)),(0:Int))))
 (fun (A:(List Int)) =>
 (some A)))
 (fun (B:(List Int)) =>
 (bnd (Z0b B) fun C =>
 some C)))
theorem Zxq {q r rest x V W B d:Nat} (h:V*d+rest=W) (e:q*d+r=rest*B+x):(q+B*V)*d+r=x+B*W:=by
 subst h;grind
theorem Zws {n d:Nat} (hn:okN n) (hd:0<d) (hd':d<18446744073709551616):Zpi n (d:Int)=some (n / d,((n%d:Nat):Int)):=by
 unfold Zpi;have hdx:=Zxb (B:=18446744073709551616) (by decide) n;have hvx:=Zgb (B:=18446744073709551616) (by decide) n;unfold okN at hn;generalize Zm 18446744073709551616 n=a at *;obtain ⟨u,hu⟩:=Z3d (b:=8) (l:=(a.length:Int)) (c:=(a.length:Int)) (by omega) (by omega) (by omega) (by omega);rw [hu,Ze,Zka (by omega) (by omega),Ze,Zab];refine Znb (fun s:(List Int)×Int×Int=>∃ k r:Nat,s.2.2=(k:Int)-1∧s.2.1=(r:Int)∧k≤a.length∧s.1.length=a.length∧r<d ∧
  val 18446744073709551616 (s.1.drop k)*d+r=val 18446744073709551616 (a.drop k)) (fun s=>(s.2.2+1).toNat)
  (fun r:List Int×Int=>val 18446744073709551616 r.1=n / d∧r.2=((n%d:Nat):Int))
  ⟨a.length,0,rfl,rfl,by omega,by simp,hd,by simp [val]⟩ (Z1a (by simp;omega)) ?_ ?_
 ·rintro ⟨out,c,i⟩ ⟨k,r,e1,e2,hk,ho,hr,hv⟩;simp only at e1 e2 ho hv ⊢;subst e1 e2;by_cases h0:0<k
  ·left;obtain ⟨j,rfl⟩:∃ j,k=j+1:=⟨k-1,by omega⟩;have hj:j<a.length:=by omega
   have hx:=hdx.get hj;obtain ⟨X,hX⟩:=Int.eq_ofNat_of_zero_le hx.1;have ej:((j+1:Nat):Int)-1=(j:Int):=by omega
   rw [ej,decide_eq_true (by omega),ZH,Z9 hj,Ze,hX];have hdv:Zre (r:Int) (X:Int) (d:Int)=some ((((r*18446744073709551616+X) / d:Nat):Int),(((r*18446744073709551616+X)%d:Nat):Int)):=by
    unfold Zre;rw [if_pos ⟨by omega,by omega,by omega,by omega,by omega⟩];simp
   rw [hdv,Ze,Z9 (by omega),Ze,Zka (by omega) (by omega),Ze];refine ⟨_,rfl,⟨j,_,rfl,rfl,by omega,by simp [ho],Nat.mod_lt _ hd,?_⟩,by simp⟩;simp only [Int.toNat_natCast];rw [Zbd (by simp;omega),List.getElem_set_self,List.drop_set_of_lt (by omega),Zbd hj,hX];simp only [Int.toNat_natCast];exact Zxq hv (by rw [Nat.mul_comm];exact Nat.div_add_mod _ _)
  ·right;have:k=0:=by omega
   subst this;rw [decide_eq_false (by simp),ZF];simp only [List.drop_zero] at hv;rw [hvx] at hv;refine ⟨_,rfl,?_,?_⟩
   ·rw [← hv,Nat.mul_comm,Nat.mul_add_div hd,Nat.div_eq_of_lt hr];rfl
   ·rw [← hv,Nat.mul_comm,Nat.mul_add_mod,Nat.mod_eq_of_lt hr]
 ·rintro ⟨out,c⟩ ⟨hv,hc⟩;simp only at hv hc ⊢;rw [Ze];simp only;unfold Z0b;rw [Ze,hv,hc]
theorem ZYs {n:Nat} {d:Int} {z:Nat×Int} (hd:inR .u64 d) (h:Z8e n d=some z):Zpi n d=some z:=by
 unfold Z8e at h;split at h
 ·rename_i hh;obtain ⟨h1,h2⟩:=hh;have:=Znf.1 hd;obtain ⟨D,rfl⟩:=Int.eq_ofNat_of_zero_le (show 0≤d by omega);rw [Zws h1 (by omega) (by omega),← h];simp
 ·cases h
theorem Zvj {p q:Nat} (hq:0<q) (hp:p≤9223372036854775807):quo .i64 (p:Int) (q:Int)=some ((p / q:Nat):Int):=by
 unfold quo;rw [if_neg (by omega)];have e:(p:Int).tdiv (q:Int)=((p / q:Nat):Int):=by simp [Int.tdiv_eq_ediv_of_nonneg]
 have h:p / q≤p:=Nat.div_le_self _ _;generalize p / q=r at *;rw [e,Zka (by omega) (by omega)]
theorem Ztb {n:Nat} (h:n≤9223372036854775807):chk .i64 (n:Int)=some (n:Int):=Zka (by omega) (by omega)
theorem ZZp {V V1 V2 t1 t2 T x K B Q hi lo R P:Nat} (hv:V=T*K) (h1:V1+Q*t1=V+Q*(t1+lo)) (h2:V2+Q*B*t2=V1+Q*B*hi) (ht2:t2=0) (e:lo+B*hi=x*R) (hQ:Q*R=P*K):V2=(T+P*x)*K:=by
 subst hv ht2;have:Q*(lo+B*hi)=Q*(x*R):=by rw [e]
 grind
theorem left_eq {n k:Nat} (hn:okN n) (hk:k≤1099511627776):ZHi n (k:Int)=some (n*2^k):=by
 unfold ZHi;by_cases hn0:n=0
 ·subst hn0;rw [Zcb];show some 0=_;simp
 by_cases hk0:k=0
 ·subst hk0;have:(((Zm 18446744073709551616 n).length:Int)==0)=false:=by
   have:=(ZId (n:=n) (B:=18446744073709551616) (by decide)).2 hn0;have:=List.length_pos_iff.2 this;simp;omega
  rw [this];show some n=_;simp
 have e1:(((Zm 18446744073709551616 n).length:Int)==0)=false:=by
  have:=(ZId (n:=n) (B:=18446744073709551616) (by decide)).2 hn0;have:=List.length_pos_iff.2 this;simp;omega
 have e2:((k:Int)==0)=false:=by simp;omega
 rw [e1,ZF,e2,Ze,ZF];have hdx:=Zxb (B:=18446744073709551616) (by decide) n;have hvx:=Zgb (B:=18446744073709551616) (by decide) n;unfold okN at hn;generalize Zm 18446744073709551616 n=a at *;have eq64:quo .i64 (k:Int) 64=some ((k / 64:Nat):Int):=Zvj (q:=64) (by omega) (by omega);have er64:rem .i64 (k:Int) 64=some ((k%64:Nat):Int):=ZRf (q:=64) (by omega);obtain ⟨w,hw⟩:∃ w,w=k / 64:=⟨_,rfl⟩;obtain ⟨s,hs⟩:∃ s,s=k%64:=⟨_,rfl⟩;have hks:k=64*w+s:=by omega
 rw [← hw] at eq64;rw [← hs] at er64;rw [eq64,Ze];have c1:chk .i64 ((a.length:Int)+(w:Int))=some ((a.length+w:Nat):Int):=by rw [← Int.natCast_add,Ztb (by omega)]
 have c2:chk .i64 (((a.length+w:Nat):Int)+1)=some ((a.length+w+1:Nat):Int):=by rw [show ((a.length+w:Nat):Int)+1=((a.length+w+1:Nat):Int) by omega,Ztb (by omega)]
 obtain ⟨u,hu⟩:=Z3d (b:=8) (l:=((a.length+w+1:Nat):Int)) (c:=((a.length+w+1:Nat):Int)) (by omega) (by omega) (by omega) (by omega);rw [c1,Ze,c2,Ze,hu,Ze,Zab,Int.toNat_natCast];have hp:0<2^s:=Nat.pow_pos (by omega);have hB:2^(64-s)*2^s=18446744073709551616:=by rw [← Nat.pow_add,show 64-s+s=64 by omega]
 have hR:18446744073709551616^w*2^s=2^k:=by
  rw [show (18446744073709551616:Nat)=2^64 from rfl,← Nat.pow_mul,← Nat.pow_add,← hks]
 refine Znb (fun st:(List Int)×Int=>∃ i:Nat,st.2=(i:Int)∧i≤a.length∧st.1.length=a.length+w+1∧Dig 18446744073709551616 st.1 ∧
  val 18446744073709551616 st.1=val 18446744073709551616 (a.take i)*2^k∧(∀ j (h:j<st.1.length),j=i+w→st.1[j]<(2^s:Nat))∧∀ j (h:j<st.1.length),i+w<j→st.1[j]=0) (fun st=>a.length-st.2.toNat)
  (fun r:List Int=>val 18446744073709551616 r=n*2^k) ⟨0,rfl,by omega,by simp,Dig.replicate _ (by omega),by simp [val,Zbj],by intro j h _;simp;exact_mod_cast hp,by simp⟩ (Z1a (by simp;omega)) ?_ ?_
 ·rintro ⟨out,i⟩ ⟨i,rfl,hi,ho,hd,hv,ht,hz⟩;simp only at ho hd hv ht hz ⊢;by_cases hlt:i<a.length
  ·left;have hx:=hdx.get hlt;obtain ⟨X,hX⟩:=Int.eq_ofNat_of_zero_le hx.1;have hiw:i+w<out.length:=by omega
   have ht':=ht _ hiw rfl;obtain ⟨T,hT⟩:=Int.eq_ofNat_of_zero_le (hd.get hiw).1;have c3:chk .i64 ((i:Int)+(w:Int))=some ((i+w:Nat):Int):=by rw [← Int.natCast_add,Ztb (by omega)]
   have c4:chk .i64 (((i+w:Nat):Int)+1)=some ((i+w+1:Nat):Int):=by rw [show ((i+w:Nat):Int)+1=((i+w+1:Nat):Int) by omega,Ztb (by omega)]
   have c5:chk .i64 (64-(s:Int))=some ((64-s:Nat):Int):=by rw [show 64-(s:Int)=((64-s:Nat):Int) by omega,Ztb (by omega)]
   have c6:decide ((i:Int)<(a.length:Int))=true:=decide_eq_true (by omega);have c7:=Z5e (x:=X) (k:=s) (by omega);have c8:=Zme (x:=X) (k:=64-s) (by omega);simp only [c6,ZH,Z9 hlt,Ze,eq64,c3,Z9 hiw,er64,hX,c7,c4,c5,c8];have hTs:T<2^s:=by rw [hT] at ht';exact_mod_cast ht'
   have hXlt:X<18446744073709551616:=by omega
   have hdm:=Nat.div_add_mod (X*2^s) 18446744073709551616;have hdiv:X*2^s / 18446744073709551616=X / 2^(64-s):=by rw [← hB,Nat.mul_div_mul_right _ _ hp]
   have hmod:X*2^s%18446744073709551616=X%2^(64-s)*2^s:=by rw [← hB,Nat.mul_mod_mul_right]
   rw [hdiv] at hdm;have hhi:X / 2^(64-s)<2^s:=by
    rw [Nat.div_lt_iff_lt_mul (Nat.pow_pos (by omega)),Nat.mul_comm,hB];exact hXlt
   have hlo:X%2^(64-s)*2^s+T<18446744073709551616:=by
    have h1:X%2^(64-s)+1≤2^(64-s):=Nat.mod_lt _ (Nat.pow_pos (by omega));have h2:=Nat.mul_le_mul_right (2^s) h1;rw [hB,Nat.add_mul] at h2;omega
   have hor:orI .u64 ((T:Nat):Int) ((X*2^s%18446744073709551616:Nat):Int)=((X*2^s%18446744073709551616+T:Nat):Int):=by
    have hc:orI .u64 (T:Int) ((X*2^s%18446744073709551616:Nat):Int)=orI .u64 ((X*2^s%18446744073709551616:Nat):Int) (T:Int):=by
     unfold orI;rw [BitVec.or_comm]
    rw [hc,hmod,Zag hTs hlo]
   simp only [Int.toNat_natCast];rw [hT,hor];have hiw1:i+w+1<(out.set (i+w) ((X*2^s%18446744073709551616+T:Nat):Int)).length:=by simp;omega
   rw [Z9 hiw1,Ze,Zka (by omega) (by omega),Ze];have h2s:2^s≤18446744073709551616:=by rw [← hB];exact Nat.le_mul_of_pos_left _ (Nat.pow_pos (by omega))
   refine ⟨_,rfl,⟨i+1,by simp,by omega,by simp [ho],?_,?_,?_,?_⟩,by simp;omega⟩
   ·refine (hd.set _ ?_).set _ ?_
    ·rw [hmod];omega
    ·omega
   ·have h1:=ZFg (B:=18446744073709551616) (l:=out) (i:=i+w) (x:=((X*2^s%18446744073709551616+T:Nat):Int)) hiw;have h2:=ZFg (B:=18446744073709551616) (x:=((X / 2^(64-s):Nat):Int)) hiw1;rw [List.getElem_set_ne (by omega),hz _ (by omega) (by omega)] at h2;rw [hT] at h1;simp only [Int.toNat_natCast] at h1 h2;rw [Zfc hlt,hX];simp only [Int.toNat_natCast];rw [Nat.pow_succ] at h2;rw [Nat.add_comm (X*2^s%18446744073709551616) T] at h1 h2 ⊢;exact ZZp (R:=2^s) hv h1 h2 rfl (by omega) (by rw [Nat.pow_add,Nat.mul_assoc,hR])
   ·intro j hj hj2;have hj3:j=i+w+1:=by omega
    subst hj3;rw [List.getElem_set_self]
    exact_mod_cast hhi
   ·intro j hj hj2;rw [List.getElem_set_ne (by omega),List.getElem_set_ne (by omega)];exact hz j (by simpa using hj) (by omega)
  ·right;rw [decide_eq_false (by omega),ZF];have hi':i=a.length:=by omega
   subst hi';rw [List.take_length,hvx] at hv;exact ⟨_,rfl,hv⟩
 ·rintro out hv;rw [Ze];unfold Z0b;rw [hv,Ze]
theorem Zgr {n:Nat} {k:Int} {z:Nat} (h:Zje n k=some z):ZHi n k=some z:=by
 unfold Zje at h;split at h
 ·rename_i hh;obtain ⟨h1,h2,h3⟩:=hh;obtain ⟨K,rfl⟩:=Int.eq_ofNat_of_zero_le h2;rw [left_eq h1 (by omega),← h];simp
 ·cases h
theorem Zjr {V T x xs x' xs' ph P B R D lo0:Nat} (h:V*R+lo0=T+P*xs) (e:D*R+xs=x+B*xs'):(V+P*D)*R+lo0=T+P*x+P*B*xs':=by
 have:P*(D*R+xs)=P*(x+B*xs'):=by rw [e]
 grind
theorem Zzr {n k:Nat} (hn:okN n) (hk:k≤9223372036854775807):Zki n (k:Int)=some (n / 2^k):=by
 unfold Zki;have hdx:=Zxb (B:=18446744073709551616) (by decide) n;have hvx:=Zgb (B:=18446744073709551616) (by decide) n;unfold okN at hn;generalize Zm 18446744073709551616 n=a at *;have eq64:quo .i64 (k:Int) 64=some ((k / 64:Nat):Int):=Zvj (q:=64) (by omega) (by omega);have er64:rem .i64 (k:Int) 64=some ((k%64:Nat):Int):=ZRf (q:=64) (by omega);obtain ⟨w,hw⟩:∃ w,w=k / 64:=⟨_,rfl⟩;obtain ⟨s,hs⟩:∃ s,s=k%64:=⟨_,rfl⟩;have hks:k=64*w+s:=by omega
 rw [← hw] at eq64;rw [← hs] at er64;have hR:18446744073709551616^w*2^s=2^k:=by
  rw [show (18446744073709551616:Nat)=2^64 from rfl,← Nat.pow_mul,← Nat.pow_add,← hks]
 rw [eq64,Ze];by_cases hwl:a.length≤w
 ·rw [decide_eq_true (by omega),ZH];congr 1;symm;apply Nat.div_eq_of_lt;have h1:=Zae hdx;rw [hvx] at h1;have h2:18446744073709551616^a.length≤18446744073709551616^w:=Nat.pow_le_pow_right (by omega) hwl;have h3:18446744073709551616^w*1≤18446744073709551616^w*2^s:=Nat.mul_le_mul_left _ (Nat.pow_pos (by omega));omega
 rw [decide_eq_false (by omega),ZF,Ze];have c1:chk .i64 ((a.length:Int)-(w:Int))=some ((a.length-w:Nat):Int):=by rw [Zka (by omega) (by omega)];congr 1;omega
 obtain ⟨u,hu⟩:=Z3d (b:=8) (l:=((a.length-w:Nat):Int)) (c:=((a.length-w:Nat):Int)) (by omega) (by omega) (by omega) (by omega);rw [c1,Ze,hu,Ze,Zab,Int.toNat_natCast];have hp:0<2^s:=Nat.pow_pos (by omega);have hB:2^(64-s)*2^s=18446744073709551616:=by rw [← Nat.pow_add,show 64-s+s=64 by omega]
 have hB':2^s*2^(64-s)=18446744073709551616:=by rw [Nat.mul_comm];exact hB
 have h2s:2^s≤18446744073709551616:=by rw [← hB];exact Nat.le_mul_of_pos_left _ (Nat.pow_pos (by omega))
 obtain ⟨A,hA⟩:∃ A,A=a.drop w:=⟨_,rfl⟩;have hAl:A.length=a.length-w:=by rw [hA,List.length_drop]
 have hdA:Dig 18446744073709551616 A:=by rw [hA];exact hdx.drop w
 have hAg:∀ j (h:j<A.length),A[j]=a[j+w]'(by omega):=by intro j h;subst hA;simp [Nat.add_comm]
 have low:∀ j,∃ q:Nat,(∀ (h:j<A.length),A[j]=(q:Int))∧(A.length≤j→q=0)∧q<18446744073709551616:=by
  intro j;by_cases h:j<A.length
  ·obtain ⟨X,hX⟩:=Int.eq_ofNat_of_zero_le (hdA.get h).1;have:=(hdA.get h).2;exact ⟨X,fun _=>hX,fun h'=>by omega,by omega⟩
  ·exact ⟨0,fun h'=>by omega,fun _=>rfl,by omega⟩
 have hrep:(List.replicate (a.length-w) (0:Int)).length=A.length:=by simp [hAl]
 rw [hrep];obtain ⟨q0,hq0⟩:=low 0;refine Znb (fun st:(List Int)×Int=>∃ i q:Nat,st.2=(i:Int)∧i≤A.length∧st.1.length=A.length∧Dig 18446744073709551616 st.1 ∧
  ((∀ (h:i<A.length),A[i]=(q:Int))∧(A.length≤i→q=0)∧q<18446744073709551616) ∧
  val 18446744073709551616 (st.1.take i)*2^s+q0%2^s=val 18446744073709551616 (A.take i)+18446744073709551616^i*(q%2^s)) (fun st=>A.length-st.2.toNat)
  (fun r:List Int=>r.length=A.length∧val 18446744073709551616 r*2^s+q0%2^s=val 18446744073709551616 A) ⟨0,q0,rfl,by omega,by simp [hAl],Dig.replicate _ (by omega),hq0,by simp [val]⟩ (Z1a (by simp;omega)) ?_ ?_
 ·rintro ⟨out,i⟩ ⟨i,q,rfl,hi,ho,hd,⟨hq1,hq2,hq3⟩,hv⟩;simp only at ho hd hv ⊢;by_cases hlt:i<A.length
  ·left;have hq:=hq1 hlt;obtain ⟨q',hq'1,hq'2,hq'3⟩:=low (i+1);have hio:i<out.length:=by omega
   have hia:i+w<a.length:=by omega
   have c3:chk .i64 ((i:Int)+(w:Int))=some ((i+w:Nat):Int):=by rw [← Int.natCast_add,Ztb (by omega)]
   have c4:chk .i64 (((i+w:Nat):Int)+1)=some ((i+w+1:Nat):Int):=by rw [show ((i+w:Nat):Int)+1=((i+w+1:Nat):Int) by omega,Ztb (by omega)]
   have c5:chk .i64 (64-(s:Int))=some ((64-s:Nat):Int):=by rw [show 64-(s:Int)=((64-s:Nat):Int) by omega,Ztb (by omega)]
   have c6:decide ((i:Int)<(A.length:Int))=true:=decide_eq_true (by omega);have c8:=Zme (x:=q) (k:=s) (by omega);have c9:chk .i64 ((i:Int)+1)=some ((i+1:Nat):Int):=by rw [show (i:Int)+1=((i+1:Nat):Int) by omega,Ztb (by omega)]
   have haq:a[i+w]=(q:Int):=by rw [← hAg i hlt];exact hq
   have hqs:q / 2^s<2^(64-s):=by rw [Nat.div_lt_iff_lt_mul hp,hB];exact hq3
   have hqd:=Nat.div_add_mod q (2^s);have hqle:q / 2^s≤q:=Nat.div_le_self _ _;simp only [c6,ZH,Ze,eq64,c3,Z9 hia,er64,haq,c8,Z9 hio,c4];have key:∀ D:Nat,D<18446744073709551616→D*2^s+q%2^s=q+18446744073709551616*(q'%2^s)→val 18446744073709551616 ((out.set i (D:Int)).take (i+1))*2^s+q0%2^s=val 18446744073709551616 (A.take (i+1))+18446744073709551616^(i+1)*(q'%2^s):=by
    intro D hD e;rw [ZGg hio,Zfc hlt,hq,Nat.pow_succ];simp only [Int.toNat_natCast];exact Zjr (x':=0) (ph:=0) hv e
   by_cases hnext:i+1<A.length
   ·have hia1:i+w+1<a.length:=by omega
    have haq':a[i+w+1]=(q':Int):=by
     have h1:=hAg _ hnext;rw [hq'1 hnext] at h1;have e:i+1+w=i+w+1:=by omega
     simp only [e] at h1;exact h1.symm
    have c10:=Z5e (x:=q') (k:=64-s) (by omega);have c11:decide (((i+w+1:Nat):Int)<(a.length:Int))=true:=decide_eq_true (by omega);have hmod:q'*2^(64-s)%18446744073709551616=q'%2^s*2^(64-s):=by rw [← hB',Nat.mul_mod_mul_right]
    have hlo:q'%2^s*2^(64-s)+q / 2^s<18446744073709551616:=by
     have h1:q'%2^s+1≤2^s:=Nat.mod_lt _ hp;have h2:=Nat.mul_le_mul_right (2^(64-s)) h1;rw [hB',Nat.add_mul] at h2;omega
    have hor:orI .u64 ((q / 2^s:Nat):Int) ((q'*2^(64-s)%18446744073709551616:Nat):Int)=((q'%2^s*2^(64-s)+q / 2^s:Nat):Int):=by
     have hc:orI .u64 ((q / 2^s:Nat):Int) ((q'*2^(64-s)%18446744073709551616:Nat):Int)=orI .u64 ((q'*2^(64-s)%18446744073709551616:Nat):Int) ((q / 2^s:Nat):Int):=by
      unfold orI;rw [BitVec.or_comm]
     rw [hc,hmod,Zag hqs hlo]
    have c12:idx (out.set i ((q / 2^s:Nat):Int)) (i:Int)=some ((q / 2^s:Nat):Int):=by
     rw [Z9 (by simp;omega),List.getElem_set_self]
    have c13:i<(out.set i ((q / 2^s:Nat):Int)).length:=by simp;omega
    simp only [c11,ZH,Ze,Int.toNat_natCast,c12,eq64,c3,c4,c5,er64,Z9 hia1,haq',c10,hor,c9,List.set_set];refine ⟨_,rfl,⟨i+1,q',rfl,by omega,by simp [ho],hd.set _ ⟨Int.natCast_nonneg _,by exact_mod_cast hlo⟩,⟨hq'1,hq'2,hq'3⟩,?_⟩,by simp;omega⟩;refine key _ hlo ?_;rw [Nat.add_mul,Nat.mul_assoc,hB];have:=Nat.mul_comm (2^s) (q / 2^s);omega
   ·have c11:decide (((i+w+1:Nat):Int)<(a.length:Int))=false:=decide_eq_false (by omega);simp only [c11,ZF,Ze,Int.toNat_natCast,c9];refine ⟨_,rfl,⟨i+1,q',rfl,by omega,by simp [ho],hd.set _ ⟨Int.natCast_nonneg _,by exact_mod_cast (Nat.lt_of_le_of_lt hqle hq3)⟩,⟨hq'1,hq'2,hq'3⟩,?_⟩,by simp;omega⟩;refine key _ (Nat.lt_of_le_of_lt hqle hq3) ?_;rw [hq'2 (by omega)];have:=Nat.mul_comm (2^s) (q / 2^s);simp;omega
  ·right;have c6:decide ((i:Int)<(A.length:Int))=false:=decide_eq_false (by omega);simp only [c6,ZF];have hi':i=A.length:=by omega
   subst hi';rw [hq2 (by omega),← ho,List.take_length,ho,List.take_length] at hv;exact ⟨_,rfl,ho,by simpa using hv⟩
 ·rintro out ⟨ho,hv⟩;rw [Ze];unfold Z0b;rw [Ze];congr 1;have h1:n / 2^k=val 18446744073709551616 A / 2^s:=by
   have h2:=Zbe 18446744073709551616 a w (by omega);rw [← hA,hvx] at h2;have h3:=Zae (hdx.take w);rw [List.length_take,Nat.min_eq_left (by omega)] at h3;rw [← hR,← Nat.div_div_eq_div_mul,h2,Nat.add_comm,Nat.mul_add_div (Nat.pow_pos (by omega)),Nat.div_eq_of_lt h3,Nat.add_zero]
  rw [h1,← hv,Nat.mul_comm,Nat.mul_add_div hp,Nat.div_eq_of_lt (Nat.mod_lt _ hp),Nat.add_zero]
theorem Zvs {n:Nat} {k:Int} {z:Nat} (hk:inR .i64 k) (h:ZYg n k=some z):Zki n k=some z:=by
 unfold ZYg at h;split at h
 ·rename_i hh;obtain ⟨h1,h2⟩:=hh;have:=Zqc.1 hk;obtain ⟨K,rfl⟩:=Int.eq_ofNat_of_zero_le h2;rw [Zzr h1 (by omega),← h];simp
 ·cases h
noncomputable def Zvh (u:(List Int)) (v:Nat) (q:Int):Option (Bool×(List Int)) :=
 bnd (chk .i64 (((((Zm 18446744073709551616 v)).length:Int))+(1:Int))) fun d =>
 bnd (mk 8 d d) fun D =>
 bnd (bnd (Z7 (fun s:(List Int)×Int×Int=>match s with
 | (e,g,b) =>
 (ifb (decide (b<(((Zm 18446744073709551616 v)).length:Int)))
 (bnd (idx ((Zm 18446744073709551616 v)) b) fun l =>
 bnd (ZGe l q) fun h =>
 bnd (Z0c h.2 g (0:Int)) fun i =>
 bnd (idx e b) fun E =>
 bnd (chk .i64 (b+(1:Int))) fun m =>
 some (.inl (((e.set (b).toNat i.1),IntKind.u64.wrap (h.1+i.2),m))))
 (some (.inr ((e,g)))))) Zga (((List.replicate (d).toNat (0:Int)),(0:Int),(0:Int))))
 (fun (p:(List Int)×Int)=>match p with
 | (n,o) =>
 (some ((n,o)))))
 (fun (p:(List Int)×Int)=>match p with
 | (f,j) =>
 (bnd (idx f ((((Zm 18446744073709551616 v)).length:Int))) fun F =>
 bnd (Z0b u) fun r =>
 bnd (Z0b ((f.set ((((Zm 18446744073709551616 v)).length:Int)).toNat j))) fun t =>
 bnd (ZNe r t) fun w =>
 ifb (decide (w<(0:Int)))
 (some ((false,u)))
 (bnd (bnd (Z7 (fun s:(List Int)×Int×Int=>match s with
 | (c,x,a) =>
 (ifb (decide (a<(u.length:Int)))
 (bnd (idx c a) fun y =>
 bnd (idx ((f.set ((((Zm 18446744073709551616 v)).length:Int)).toNat j)) a) fun z =>
 bnd (ZRe y z x) fun k =>
 bnd (idx c a) fun G =>
 bnd (chk .i64 (a+(1:Int))) fun A =>
 some (.inl (((c.set (a).toNat k.1),k.2,A))))
 (some (.inr c)))) Zga ((u,(0:Int),(0:Int))))
 (fun (B:(List Int)) =>
 (some B)))
 (fun (C:(List Int)) =>
 (some ((true,C)))))))
noncomputable def Z1j (n:Int):Option (Nat) :=
 bnd (Z0b ([n])) fun a =>
 some a
theorem ZHr {n:Int} {z:Nat} (h:Zoc n=some z):Z1j n=some z:=by
 unfold Zoc at h;unfold Z1j Z0b;rw [Ze,← h];simp [val]
theorem ZZr {V Q P c c' d y q B:Nat} (h:V+Q*c=P*q) (e:d+B*c'=y*q+c):(V+Q*d)+Q*B*c'=(P+Q*y)*q:=by
 have:Q*(d+B*c')=Q*(y*q+c):=by rw [e]
 grind
theorem take_eq {u:List Int} {v q:Nat} (hd:Dig 18446744073709551616 u) (hv:okN v) (hl:u.length=(Zm 18446744073709551616 v).length+1) (hq:q<18446744073709551616) :
  Zvh u v (q:Int)=if val 18446744073709551616 u<v*q then some (false,u) else some (true,ZGc u.length (val 18446744073709551616 u-v*q)):=by
 unfold Zvh;have hdx:=Zxb (B:=18446744073709551616) (by decide) v;have hvx:=Zgb (B:=18446744073709551616) (by decide) v;unfold okN at hv;generalize Zm 18446744073709551616 v=a at *;have c1:chk .i64 ((a.length:Int)+1)=some ((a.length+1:Nat):Int):=by rw [show (a.length:Int)+1=((a.length+1:Nat):Int) by omega,Ztb (by omega)]
 obtain ⟨w,hw⟩:=Z3d (b:=8) (l:=((a.length+1:Nat):Int)) (c:=((a.length+1:Nat):Int)) (by omega) (by omega) (by omega) (by omega);rw [c1,Ze,hw,Ze,Zab,Int.toNat_natCast];have goal_some:∃ z,(if val 18446744073709551616 u<v*q then some (false,u) else some (true,ZGc u.length (val 18446744073709551616 u-v*q)))=some z:=by split <;> exact ⟨_,rfl⟩
 obtain ⟨z,hz⟩:=goal_some;rw [hz];refine Znb (fun s:(List Int)×Int×Int=>∃ k c:Nat,s.2.2=(k:Int)∧s.2.1=(c:Int)∧k≤a.length∧s.1.length=a.length+1∧Dig 18446744073709551616 s.1∧c<18446744073709551616 ∧
  val 18446744073709551616 (s.1.take k)+18446744073709551616^k*c=val 18446744073709551616 (a.take k)*q) (fun s=>a.length-s.2.2.toNat)
  (fun r:List Int×Int=>∃ c:Nat,r.2=(c:Int)∧r.1.length=a.length+1∧Dig 18446744073709551616 r.1∧c<18446744073709551616∧val 18446744073709551616 (r.1.take a.length)+18446744073709551616^a.length*c=v*q)
  ⟨0,0,rfl,rfl,by omega,by simp,Dig.replicate _ (by omega),by omega,by simp [val]⟩ (Z1a (by simp;omega)) ?_ ?_
 ·rintro ⟨p,c,i⟩ ⟨k,c,rfl,rfl,hk,ho,hdp,hc,hv2⟩;simp only at ho hdp hv2 ⊢;by_cases hlt:k<a.length
  ·left;have hx:=hdx.get hlt;obtain ⟨X,hX⟩:=Int.eq_ofNat_of_zero_le hx.1;have hX':X<18446744073709551616:=by omega
   have hxq:X*q≤18446744073709551615*18446744073709551615:=Nat.mul_le_mul (by omega) (by omega);have c2:decide ((k:Int)<(a.length:Int))=true:=decide_eq_true (by omega);have c3:chk .i64 ((k:Int)+1)=some ((k+1:Nat):Int):=by rw [show (k:Int)+1=((k+1:Nat):Int) by omega,Ztb (by omega)]
   have hkp:k<p.length:=by omega
   have c4:=ZMl hX' hq;have c5:=ZDi (x:=((X*q%18446744073709551616:Nat):Int)) (y:=(c:Int)) (c:=0) (by omega) (by omega) (by omega) (by omega);simp only [c2,ZH,Z9 hlt,Ze,hX,c4,c5,Z9 hkp,c3];generalize hp:X*q=t at *;have e1:IntKind.u64.wrap (((t / 18446744073709551616:Nat):Int)+(((t%18446744073709551616:Nat):Int)+(c:Int)+0) / 18446744073709551616)=(((t+c) / 18446744073709551616:Nat):Int):=by
    rw [wrap_u64];omega
   have e2:(((t%18446744073709551616:Nat):Int)+(c:Int)+0)%18446744073709551616=(((t+c)%18446744073709551616:Nat):Int):=by omega
   rw [e1,e2];refine ⟨_,rfl,⟨k+1,_,rfl,rfl,by omega,by simp [ho],hdp.set _ ⟨by omega,by omega⟩,by omega,?_⟩,by simp;omega⟩;simp only [Int.toNat_natCast];rw [ZGg hkp,Zfc hlt,hX,Nat.pow_succ];simp only [Int.toNat_natCast];exact ZZr hv2 (by rw [hp];omega)
  ·right;have c2:decide ((k:Int)<(a.length:Int))=false:=decide_eq_false (by omega);simp only [c2,ZF];have hk':k=a.length:=by omega
   subst hk';rw [List.take_length,hvx] at hv2;exact ⟨_,rfl,c,rfl,ho,hdp,hc,hv2⟩
 ·rintro ⟨p,c⟩ ⟨c,hcc,ho,hdp,hc,hv2⟩;simp only at hcc ho hdp hv2;subst hcc;rw [Ze];have hlp:a.length<p.length:=by omega
  simp only [Z9 hlp,Ze,Int.toNat_natCast];obtain ⟨P,hP⟩:∃ P,P=p.set a.length (c:Int):=⟨_,rfl⟩;have hPl:P.length=a.length+1:=by rw [hP];simp [ho]
  have hPd:Dig 18446744073709551616 P:=by rw [hP];exact hdp.set _ ⟨by omega,by omega⟩
  have hPv:val 18446744073709551616 P=v*q:=by
   rw [← hv2];have:=ZGg (B:=18446744073709551616) (l:=p) (x:=(c:Int)) hlp;rw [← hP,← hPl,List.take_length] at this;rw [this];simp
  rw [← hP];have hcut:Z0b u=some (val 18446744073709551616 u):=rfl;have hcut2:Z0b P=some (v*q):=by unfold Z0b;rw [hPv]
  have hcmp:∀ n m,ZNe n m=some (Zib n m):=fun _ _=>rfl;simp only [hcut,hcut2,hcmp,Ze];by_cases hlt:val 18446744073709551616 u<v*q
  ·have:Zib (val 18446744073709551616 u) (v*q) = -1:=by unfold Zib;rw [if_pos hlt]
   rw [this,show decide ((-1:Int)<0)=true from rfl,ZH];rw [if_pos hlt] at hz;exact hz
  ·have:decide (Zib (val 18446744073709551616 u) (v*q)<0)=false:=by
    unfold Zib;rw [if_neg hlt];split <;> rfl
   rw [this,ZF,Zab];rw [if_neg hlt] at hz;rw [← hz];have hle:v*q≤val 18446744073709551616 u:=by omega
   refine Znb (fun s:(List Int)×Int×Int=>∃ k c:Nat,s.2.2=(k:Int)∧s.2.1=(c:Int)∧k≤u.length∧s.1.length=u.length∧Dig 18446744073709551616 s.1∧c≤1∧s.1.drop k=u.drop k ∧
    val 18446744073709551616 (s.1.take k)+val 18446744073709551616 (P.take k)=val 18446744073709551616 (u.take k)+18446744073709551616^k*c) (fun s=>u.length-s.2.2.toNat)
    (fun r:List Int=>r.length=u.length∧Dig 18446744073709551616 r∧val 18446744073709551616 r=val 18446744073709551616 u-v*q)
    ⟨0,0,rfl,rfl,by omega,rfl,hd,by omega,rfl,by simp [val]⟩ (Z1a (by simp;omega)) ?_ ?_
   ·rintro ⟨o,b,i⟩ ⟨k,b,rfl,rfl,hk,ho2,hdo,hb,hdr,hv3⟩;simp only at ho2 hdo hdr hv3 ⊢;by_cases hlt2:k<u.length
    ·left;have hko:k<o.length:=by omega
     have hkP:k<P.length:=by omega
     have hou:o[k]=u[k]:=by
      rw [List.drop_eq_getElem_cons hko,List.drop_eq_getElem_cons hlt2] at hdr;exact (List.cons.inj hdr).1
     obtain ⟨X,hX⟩:=Int.eq_ofNat_of_zero_le (hd.get hlt2).1;obtain ⟨Y,hY⟩:=Int.eq_ofNat_of_zero_le (hPd.get hkP).1;have hX2:=(hd.get hlt2).2;have hY2:=(hPd.get hkP).2;have c2:decide ((k:Int)<(u.length:Int))=true:=decide_eq_true (by omega);have c3:chk .i64 ((k:Int)+1)=some ((k+1:Nat):Int):=by rw [show (k:Int)+1=((k+1:Nat):Int) by omega,Ztb (by omega)]
     have c5:=ZTo (x:=(X:Int)) (y:=(Y:Int)) (c:=(b:Int)) (by omega) (by omega) (by omega) (by omega);simp only [c2,ZH,Z9 hko,hou,hX,Ze,Z9 hkP,hY,c5,c3];obtain ⟨b',hb'⟩:∃ b':Nat,(if (X:Int)<(Y:Int)+(b:Int) then (1:Int) else 0)=(b':Int):=by
      by_cases hxy:(X:Int)<(Y:Int)+(b:Int)
      ·exact ⟨1,if_pos hxy⟩
      ·exact ⟨0,if_neg hxy⟩
     rw [hb'];have hbb:b'≤1∧((X:Int)-Y-b)%18446744073709551616+Y+b=X+18446744073709551616*b':=by
      split at hb' <;> omega
     refine ⟨_,rfl,⟨k+1,b',rfl,rfl,by omega,by simp [ho2],hdo.set _ ⟨by omega,by omega⟩,hbb.1,?_,?_⟩,by simp;omega⟩
     ·simp only [Int.toNat_natCast];rw [List.drop_set_of_lt (by omega)];rw [List.drop_eq_getElem_cons hko,List.drop_eq_getElem_cons hlt2] at hdr;exact (List.cons.inj hdr).2
     ·simp only [Int.toNat_natCast];rw [ZGg hko,Zfc hlt2,Zfc hkP,hX,hY,Nat.pow_succ];exact Zsl hv3 (by simp only [Int.toNat_natCast];omega)
    ·right;have c2:decide ((k:Int)<(u.length:Int))=false:=decide_eq_false (by omega);simp only [c2,ZF];have hk':k=u.length:=by omega
     subst hk';have e1:P.take u.length=P:=by rw [hl,← hPl,List.take_length]
     rw [← ho2,List.take_length,ho2,e1,hPv,List.take_length] at hv3;refine ⟨_,rfl,ho2,hdo,?_⟩;have h1:=Zae hdo;rw [ho2] at h1;have h2:b=0∨b=1:=by omega
     rcases h2 with rfl | rfl
     ·omega
     ·rw [Nat.mul_one] at hv3;omega
   ·rintro r ⟨h1,h2,h3⟩;rw [Ze,← h3,← h1,Zym h2]
theorem Zks {u:List Int} {v:Nat} {q:Int} {z:Bool×List Int} (hd:Dig 18446744073709551616 u) (hq:inR .u64 q) (h:Zmh u v q=some z):Zvh u v q=some z:=by
 unfold Zmh at h;split at h
 ·rename_i hh;have:=Znf.1 hq;obtain ⟨Q,rfl⟩:=Int.eq_ofNat_of_zero_le (show 0≤q by omega);rw [take_eq hd hh.1 hh.2 (by omega),← h];simp
 ·cases h
noncomputable def ZJh (u:(List Int)) (v:Nat):Option (Int×(List Int)) :=
 bnd (idx u ((((Zm 18446744073709551616 v)).length:Int))) fun h =>
 bnd (chk .i64 (((((Zm 18446744073709551616 v)).length:Int))-(1:Int))) fun i =>
 bnd (idx ((Zm 18446744073709551616 v)) i) fun j =>
 bnd (ifb (decide (h<j))
 (bnd (idx u ((((Zm 18446744073709551616 v)).length:Int))) fun k =>
 bnd (chk .i64 (((((Zm 18446744073709551616 v)).length:Int))-(1:Int))) fun l =>
 bnd (idx u l) fun m =>
 bnd (chk .i64 (((((Zm 18446744073709551616 v)).length:Int))-(1:Int))) fun n =>
 bnd (idx ((Zm 18446744073709551616 v)) n) fun o =>
 bnd (Zre k m o) fun f =>
 bnd (bnd (Z7 (fun s:Int×Int=>match s with
 | (a,b) =>
 (bnd (chk .i64 (((((Zm 18446744073709551616 v)).length:Int))-(2:Int))) fun q =>
 bnd (idx ((Zm 18446744073709551616 v)) q) fun r =>
 bnd (ZGe a r) fun c =>
 bnd (ifb (decide (c.1<b))
 (some true)
 (ifb (c.1==b)
 (bnd (chk .i64 (((((Zm 18446744073709551616 v)).length:Int))-(2:Int))) fun t =>
 bnd (idx u t) fun w =>
 some (decide (c.2≤w)))
 (some false)))
 (fun (x:Bool) =>
 (ifb (x)
 (some (.inr a))
 (bnd (chk .i64 (((((Zm 18446744073709551616 v)).length:Int))-(1:Int))) fun y =>
 bnd (idx ((Zm 18446744073709551616 v)) y) fun z =>
 bnd (Z0c b z (0:Int)) fun g =>
 ifb (decide ((0:Int)<g.2))
 (some (.inr (IntKind.u64.wrap (a-(1:Int)))))
 (some (.inl ((IntKind.u64.wrap (a-(1:Int)),g.1))))))))) Zga ((f.1,f.2)))
 (fun (A:Int) =>
 (some A)))
 (fun (B:Int) =>
 (some B)))
 (some (18446744073709551615:Int)))
 (fun (C:Int) =>
 (bnd (bnd (Z7 (fun s:(List Int)×Int=>match s with
 | (D,d) =>
 (bnd (Zmh D v d) fun e =>
 ifb (!(e.1))
 (some (.inl ((e.2,IntKind.u64.wrap (d-(1:Int))))))
 (some (.inr ((e.2,d)))))) Zga ((u,C)))
 (fun (p:(List Int)×Int)=>match p with
 | (E,F) =>
 (some ((E,F)))))
 (fun (p:(List Int)×Int)=>match p with
 | (G,H) =>
 (some ((H,G))))))
theorem top2 {B:Nat} {a:List Int} {n:Nat} (hn:a.length=n+2):val B a=val B (a.take n)+B^n*((a[n]'(by omega)).toNat+B*(a[n+1]'(by omega)).toNat):=by
 rw [Zbe B a n (by omega),Zbd (by omega),Zbd (by omega),List.drop_of_length_le (by omega)];simp [val]
theorem top3 {B:Nat} {a:List Int} {n:Nat} (hn:a.length=n+3):val B a=val B (a.take n)+B^n*((a[n]'(by omega)).toNat+B*((a[n+1]'(by omega)).toNat+B*(a[n+2]'(by omega)).toNat)):=by
 rw [Zbe B a n (by omega),Zbd (by omega),Zbd (by omega),Zbd (by omega),List.drop_of_length_le (by omega)];simp [val]
theorem ZYq {Q v v1 v2 lowv lowu u2 h R U:Nat} (hR:0<R) (hv:v=lowv+R*(v2+18446744073709551616*v1)) (hU:U=lowu+R*(u2+18446744073709551616*h)) (hlow:lowu<R) (hu2:u2<18446744073709551616) (hQ:Q*v≤U):Q*v1≤h:=by
 have h1:R*(Q*(18446744073709551616*v1))≤Q*v:=by
  rw [hv];have:Q*(R*(18446744073709551616*v1))≤Q*(lowv+R*(v2+18446744073709551616*v1)):=by
   apply Nat.mul_le_mul_left;rw [Nat.mul_add R];omega
  rw [Nat.mul_left_comm];exact this
 have h2:R*(Q*(18446744073709551616*v1))<R*(u2+18446744073709551616*h+1):=by rw [Nat.mul_add R _ 1];omega
 have h3:=Nat.lt_of_mul_lt_mul_left h2;rw [Nat.mul_left_comm] at h3;generalize Q*v1=t at *;omega
theorem Zms {g v v1 v2 lowv lowu u2 h r R U:Nat} (hR:0<R) (hv:v=lowv+R*(v2+18446744073709551616*v1)) (hU:U=lowu+R*(u2+18446744073709551616*h)) (hlow:lowu<R) (hh:h=g*v1+r) (hgt:r*18446744073709551616+u2<g*v2):U<g*v:=by
 rcases Nat.lt_or_ge U (g*v) with hlt | hge
 ·exact hlt
 ·exfalso;have h1:R*(g*(v2+18446744073709551616*v1))≤g*v:=by
   have e:g*v=g*lowv+R*(g*(v2+18446744073709551616*v1)):=by rw [hv,Nat.mul_add,Nat.mul_left_comm g R]
   omega
  have h2:R*(g*(v2+18446744073709551616*v1))<R*(u2+18446744073709551616*h+1):=by rw [Nat.mul_add R _ 1];omega
  have h3:=Nat.lt_of_mul_lt_mul_left h2;rw [Nat.mul_add g,Nat.mul_left_comm] at h3;generalize g*v1=t at *;omega
theorem ZOr {u:List Int} {v:Nat} (hd:Dig 18446744073709551616 u) (hv:okN v) (hl:u.length=(Zm 18446744073709551616 v).length+1) (h2:2≤(Zm 18446744073709551616 v).length) (hlt:val 18446744073709551616 u<v*18446744073709551616) {z:Int×List Int}
  (f:Int→Option (Int×List Int)) (hf:∀ g:Nat,val 18446744073709551616 u / v≤g→g<18446744073709551616→f (g:Int)=some z) :
  (bnd (idx u ((((Zm 18446744073709551616 v)).length:Int))) fun y14 =>
 bnd (chk .i64 (((((Zm 18446744073709551616 v)).length:Int))-((1:Int)))) fun y20 =>
 bnd (idx ((Zm 18446744073709551616 v)) y20) fun y22 =>
 bnd (ifb (decide (y14<y22))
 (bnd (idx u ((((Zm 18446744073709551616 v)).length:Int))) fun y121 =>
 bnd (chk .i64 (((((Zm 18446744073709551616 v)).length:Int))-((1:Int)))) fun y127 =>
 bnd (idx u y127) fun y129 =>
 bnd (chk .i64 (((((Zm 18446744073709551616 v)).length:Int))-((1:Int)))) fun y135 =>
 bnd (idx ((Zm 18446744073709551616 v)) y135) fun y137 =>
 bnd (Zre y121 y129 y137) fun y143 =>
 bnd (bnd (Z7 (fun s:Int×Int=>match s with
 | (x183,x185) =>
 (bnd (chk .i64 (((((Zm 18446744073709551616 v)).length:Int))-((2:Int)))) fun y201 =>
 bnd (idx ((Zm 18446744073709551616 v)) y201) fun y203 =>
 bnd (ZGe x183 y203) fun y209 =>
 bnd (ifb (decide (y209.1<x185))
 (some true)
 (ifb (y209.1==x185)
 (bnd (chk .i64 (((((Zm 18446744073709551616 v)).length:Int))-((2:Int)))) fun y270 =>
 bnd (idx u y270) fun y272 =>
 some (decide (y209.2≤y272)))
 (some false)))
 (fun (x236:Bool) =>
 (ifb (x236)
 (some (.inr x183))
 (bnd (chk .i64 (((((Zm 18446744073709551616 v)).length:Int))-((1:Int)))) fun y251 =>
 bnd (idx ((Zm 18446744073709551616 v)) y251) fun y253 =>
 bnd (Z0c x185 y253 ((0:Int))) fun y259 =>
 ifb (decide ((0:Int)<y259.2))
 (some (.inr (IntKind.u64.wrap (x183-((1:Int))))))
 (some (.inl ((IntKind.u64.wrap (x183-((1:Int))),y259.1))))))))) Zga ((y143.1,y143.2)))
 (fun (x189:Int) =>
 (some x189)))
 (fun (x174:Int) =>
 (some x174)))
 (some ((18446744073709551615:Int)))) f)=some z:=by
 have hdx:=Zxb (B:=18446744073709551616) (by decide) v;have hvx:=Zgb (B:=18446744073709551616) (by decide) v;have hcx:=Zej (B:=18446744073709551616) (by decide) v;unfold okN at hv;generalize Zm 18446744073709551616 v=a at *;obtain ⟨n,hn⟩:∃ n,a.length=n+2:=⟨a.length-2,by omega⟩;have hu:u.length=n+3:=by omega
 obtain ⟨v1,hv1⟩:=Int.eq_ofNat_of_zero_le (hdx.get (i:=n+1) (by omega)).1;obtain ⟨v2,hv2⟩:=Int.eq_ofNat_of_zero_le (hdx.get (i:=n) (by omega)).1;obtain ⟨u0,hu0⟩:=Int.eq_ofNat_of_zero_le (hd.get (i:=n+2) (by omega)).1;obtain ⟨u1,hu1⟩:=Int.eq_ofNat_of_zero_le (hd.get (i:=n+1) (by omega)).1;obtain ⟨u2,hu2⟩:=Int.eq_ofNat_of_zero_le (hd.get (i:=n) (by omega)).1;have b1:=(hdx.get (i:=n+1) (by omega)).2;have b2:=(hdx.get (i:=n) (by omega)).2;have b3:=(hd.get (i:=n+2) (by omega)).2;have b4:=(hd.get (i:=n+1) (by omega)).2;have b5:=(hd.get (i:=n) (by omega)).2;rw [hv1] at b1;rw [hv2] at b2;rw [hu0] at b3;rw [hu1] at b4;rw [hu2] at b5;have hv10:v1≠0:=by
  have e:a.length-1=n+1:=by omega
  have:=hcx a[n+1] (by rw [List.getLast?_eq_getElem?];simp only [e];exact List.getElem?_eq_getElem _);rw [hv1] at this;omega
 have tv:=top2 (B:=18446744073709551616) hn;have tu:=top3 (B:=18446744073709551616) hu;rw [hvx,hv1,hv2] at tv;rw [hu0,hu1,hu2] at tu;simp only [Int.toNat_natCast] at tv tu;have hR:0<18446744073709551616^n:=Nat.pow_pos (by omega);have hlow:=Zae (hd.take n);rw [List.length_take,Nat.min_eq_left (by omega)] at hlow;have hv0:0<v:=by
  rcases Nat.eq_zero_or_pos v with h | h
  ·subst h;omega
  ·exact h
 obtain ⟨U,hU⟩:∃ U,U=val 18446744073709551616 u:=⟨_,rfl⟩;rw [← hU] at hf hlt tu;have hQv:U / v*v≤U:=Nat.div_mul_le_self _ _;have hQB:U / v<18446744073709551616:=by rw [Nat.div_lt_iff_lt_mul hv0,Nat.mul_comm];exact hlt
 have hQlt:∀ g,U<g*v→U / v<g:=fun g h=>(Nat.div_lt_iff_lt_mul hv0).2 h;generalize U / v=Q at *;have tu':U=val 18446744073709551616 (u.take n)+18446744073709551616^n*(u2+18446744073709551616*(u0*18446744073709551616+u1)):=by
  rw [tu];congr 2;omega
 have c0:chk .i64 ((a.length:Int)-1)=some ((n+1:Nat):Int):=by rw [Zka (by omega) (by omega)];congr 1;omega
 have c00:chk .i64 ((a.length:Int)-2)=some ((n:Nat):Int):=by rw [Zka (by omega) (by omega)];congr 1;omega
 have i0:idx u (a.length:Int)=some (u0:Int):=by rw [hn,Z9 (by omega),hu0]
 have i1:idx u ((n+1:Nat):Int)=some (u1:Int):=by rw [Z9 (by omega),hu1]
 have i2:idx u ((n:Nat):Int)=some (u2:Int):=by rw [Z9 (by omega),hu2]
 have i3:idx a ((n+1:Nat):Int)=some (v1:Int):=by rw [Z9 (by omega),hv1]
 have i4:idx a ((n:Nat):Int)=some (v2:Int):=by rw [Z9 (by omega),hv2]
 simp only [i0,Ze,c0,i3,i1,c00,i4,i2];by_cases hc:u0<v1
 ·have e1:decide ((u0:Int)<(v1:Int))=true:=decide_eq_true (by omega);have e2:Zre (u0:Int) (u1:Int) (v1:Int)=some ((((u0*18446744073709551616+u1) / v1:Nat):Int),(((u0*18446744073709551616+u1)%v1:Nat):Int)):=by
   unfold Zre;rw [if_pos ⟨by omega,by omega,by omega,by omega,by omega⟩];simp
  simp only [e1,ZH,e2,Ze];obtain ⟨h,hh⟩:∃ h,h=u0*18446744073709551616+u1:=⟨_,rfl⟩;rw [← hh] at tu' ⊢;have hv1p:0<v1:=by omega
  have hg0:h / v1<18446744073709551616:=by
   rw [Nat.div_lt_iff_lt_mul hv1p,hh];have:(u0+1)*18446744073709551616≤v1*18446744073709551616:=Nat.mul_le_mul_right _ hc;rw [Nat.mul_comm 18446744073709551616];omega
  rw [Zab,Zab];refine Znb (fun s:Int×Int=>∃ g r:Nat,s=((g:Int),(r:Int))∧h=g*v1+r∧r<18446744073709551616∧Q≤g∧g<18446744073709551616) (fun s=>s.1.toNat)
   (fun r:Int=>∃ g:Nat,r=(g:Int)∧Q≤g∧g<18446744073709551616)
   ⟨h / v1,h%v1,rfl,by rw [Nat.mul_comm];exact (Nat.div_add_mod _ _).symm,Nat.lt_trans (Nat.mod_lt _ hv1p) (by omega),(Nat.le_div_iff_mul_le hv1p).2 (ZYq hR tv tu' hlow (by omega) hQv),hg0⟩
   (Z1a (by simp only [Int.toNat_natCast];omega)) ?_ ?_
  ·rintro _ ⟨g,r,rfl,e,hr,hQ,hg⟩;have m1:=ZMl (x:=g) (y:=v2) hg (by omega);simp only [m1,Ze];have cond:ifb (decide (((g*v2 / 18446744073709551616:Nat):Int)<(r:Int))) (some true) (ifb (((g*v2 / 18446744073709551616:Nat):Int)==(r:Int)) (some (decide (((g*v2%18446744073709551616:Nat):Int)≤(u2:Int)))) (some false))=some (decide (g*v2≤r*18446744073709551616+u2)):=by
    generalize g*v2=t;by_cases q1:t / 18446744073709551616<r
    ·rw [decide_eq_true (by omega),ZH,decide_eq_true (by omega)]
    ·rw [decide_eq_false (by omega),ZF];by_cases q2:t / 18446744073709551616=r
     ·have:(((t / 18446744073709551616:Nat):Int)==(r:Int))=true:=by simp;omega
      rw [this,ZH];exact congrArg some (decide_eq_decide.2 (by omega))
     ·have:(((t / 18446744073709551616:Nat):Int)==(r:Int))=false:=by simp;omega
      rw [this,ZF,decide_eq_false (by omega)]
   rw [cond,Ze];by_cases hcd:g*v2≤r*18446744073709551616+u2
   ·right;rw [decide_eq_true hcd,ZH];exact ⟨_,rfl,g,rfl,hQ,hg⟩
   ·rw [decide_eq_false hcd,ZF];have hdown:=Zms hR tv tu' hlow e (by omega);have hQg:Q<g:=hQlt g hdown;have a1:=ZDi (x:=(r:Int)) (y:=(v1:Int)) (c:=0) (by omega) (by omega) (by omega) (by omega);simp only [a1,Ze];have ew:IntKind.u64.wrap ((g:Int)-1)=((g-1:Nat):Int):=by rw [wrap_u64];omega
    rw [ew];by_cases ho:18446744073709551616≤r+v1
    ·right;rw [decide_eq_true (by omega),ZH];exact ⟨_,rfl,g-1,rfl,by omega,by omega⟩
    ·left;rw [decide_eq_false (by omega),ZF];have er:((r:Int)+v1+0)%18446744073709551616=((r+v1:Nat):Int):=by omega
     rw [er];refine ⟨_,rfl,⟨g-1,r+v1,rfl,?_,by omega,by omega,by omega⟩,by simp;omega⟩;obtain ⟨g',rfl⟩:∃ g',g=g'+1:=⟨g-1,by omega⟩;rw [e,Nat.succ_mul];simp;omega
  ·rintro _ ⟨g,rfl,h1,h2⟩;simp only [Ze];exact hf g h1 h2
 ·have e1:decide ((u0:Int)<(v1:Int))=false:=decide_eq_false (by omega);simp only [e1,ZF,Ze];exact hf 18446744073709551615 (by omega) (by omega)
theorem Zlq {u:List Int} {v:Nat} (hd:Dig 18446744073709551616 u) (hv:okN v) (hl:u.length=(Zm 18446744073709551616 v).length+1) (h2:2≤(Zm 18446744073709551616 v).length) (hlt:val 18446744073709551616 u<v*18446744073709551616) :
  ZJh u v=some (((val 18446744073709551616 u / v:Nat):Int),ZGc u.length (val 18446744073709551616 u%v)):=by
 unfold ZJh;refine ZOr hd hv hl h2 hlt _ fun g hg hg2=>?_;have hv0:0<v:=by
  rcases Nat.eq_zero_or_pos v with h | h
  ·subst h;omega
  ·exact h
 obtain ⟨U,hU⟩:∃ U,U=val 18446744073709551616 u:=⟨_,rfl⟩;rw [← hU] at hg ⊢;have hdm:=Nat.div_add_mod U v;have hQ1:∀ g,v*g≤U→g≤U / v:=fun g h=>(Nat.le_div_iff_mul_le hv0).2 (by rw [Nat.mul_comm];exact h);have hQ2:∀ g,U<v*g→U / v<g:=fun g h=>(Nat.div_lt_iff_lt_mul hv0).2 (by rw [Nat.mul_comm];exact h);generalize U / v=Q at *;generalize U%v=M at *;rw [Zab];refine Znb (fun s:(List Int)×Int=>∃ g:Nat,s=(u,(g:Int))∧Q≤g∧g<18446744073709551616) (fun s=>s.2.toNat) (fun r:(List Int)×Int=>r=(ZGc u.length (M),((Q:Nat):Int)))
  ⟨g,rfl,hg,hg2⟩ (Z1a (by simp only [Int.toNat_natCast];omega)) ?_ ?_
 ·rintro _ ⟨g,rfl,hg,hg2⟩;have ht:Zmh u v (g:Int)=if U<v*g then some (false,u) else some (true,ZGc u.length (U-v*g)):=by
   unfold Zmh;rw [if_pos ⟨hv,hl⟩,← hU];simp
  by_cases hc:U<v*g
  ·left;rw [if_pos hc] at ht;have hQg:Q<g:=hQ2 g hc;have ew:IntKind.u64.wrap ((g:Int)-1)=((g-1:Nat):Int):=by rw [wrap_u64];omega
   simp only [ht,Ze,Bool.not_false,ZH,ew];exact ⟨_,rfl,⟨g-1,rfl,by omega,by omega⟩,by simp;omega⟩
  ·right;rw [if_neg hc] at ht;have hQg:g≤Q:=hQ1 g (by omega);have e:g=Q:=by omega
   simp only [ht,Ze,Bool.not_true,ZF];refine ⟨_,rfl,?_⟩;subst e;congr 2;omega
 ·rintro _ rfl;simp only [Ze]
theorem Zbr {u:List Int} {v:Nat} {z:Int×List Int} (hd:Dig 18446744073709551616 u) (h:Zoh u v=some z):ZJh u v=some z:=by
 unfold Zoh at h;split at h
 ·rename_i hh;rw [Zlq hd hh.1 hh.2.1 hh.2.2.1 hh.2.2.2,← h]
 ·cases h
noncomputable def Z3h (a:Nat) (b:Nat):Option (Nat×Nat) :=
 bnd (ZNe a b) fun m =>
 ifb (decide (m<(0:Int)))
 (some (((0:Nat),a)))
 (ifb (((((Zm 18446744073709551616 b)).length:Int))==(1:Int))
 (bnd (idx ((Zm 18446744073709551616 b)) (0:Int)) fun n =>
 bnd (Z8e a n) fun j =>
 bnd (Zoc j.2) fun o =>
 some ((j.1,o)))
 (bnd (chk .i64 (((((Zm 18446744073709551616 b)).length:Int))-(1:Int))) fun q =>
 bnd (idx ((Zm 18446744073709551616 b)) q) fun r =>
 bnd (ZYe r) fun g =>
 bnd (Zje b g) fun h =>
 bnd (Zje a g) fun d =>
 bnd (Z4a 8 (([]:(List Int))++((Zm 18446744073709551616 d)))) fun E =>
 bnd (Z4a 8 ((([]:(List Int))++((Zm 18446744073709551616 d)))++[(0:Int)])) fun F =>
 bnd (chk .i64 ((((((([]:(List Int))++((Zm 18446744073709551616 d)))++[(0:Int)])).length:Int))-((((Zm 18446744073709551616 h)).length:Int)))) fun e =>
 bnd (mk 8 e e) fun G =>
 bnd (chk .i64 (((((List.replicate (e).toNat (0:Int))).length:Int))-(1:Int))) fun t =>
 bnd (bnd (Z7 (fun s:(List Int)×(List Int)×Int=>match s with
 | (f,i,c) =>
 (ifb (decide ((0:Int)≤c))
 (bnd (chk .i64 (c+((((Zm 18446744073709551616 h)).length:Int)))) fun u =>
 bnd (chk .i64 (u+(1:Int))) fun k =>
 bnd (cutP f c k) fun v =>
 bnd (Zoh v h) fun l =>
 bnd (idx i c) fun H =>
 bnd (chk .i64 (c-(1:Int))) fun w =>
 some (.inl (((List.take (c).toNat f++l.2++List.drop (k).toNat f),(i.set (c).toNat l.1),w))))
 (some (.inr ((f,i)))))) Zga ((((([]:(List Int))++((Zm 18446744073709551616 d)))++[(0:Int)]),(List.replicate (e).toNat (0:Int)),t)))
 (fun (p:(List Int)×(List Int))=>match p with
 | (x,y) =>
 (some ((x,y)))))
 (fun (p:(List Int)×(List Int))=>match p with
 | (z,A) =>
 (bnd (Z0b A) fun B =>
 bnd (Z0b z) fun C =>
 bnd (ZYg C g) fun D =>
 some ((B,D))))))
theorem Z0i {x:Int} {n:Nat} (h:x=(n:Int)) (hn:n≤9223372036854775807):chk .i64 x=some (n:Int):=by rw [h];exact Ztb hn
theorem ZVp {A V U U' q Qd P B seg low:Nat} (h:U+V*(P*B*q)=A) (e1:U=low+P*seg) (e2:U'=low+P*(seg%V)) (e3:Qd=seg / V):U'+V*(P*(Qd+B*q))=A:=by
 have hd:=Nat.div_add_mod seg V;rw [← e3] at hd;have h2:P*seg=P*(V*Qd+seg%V):=by rw [hd]
 subst e1 e2;rw [h2] at h;grind
theorem Z1q {n m:Nat} (hn:okN n) (hm:okN m) (h0:m≠0):Z3h n m=some (n / m,n%m):=by
 unfold Z3h;have hcmp:∀ n m,ZNe n m=some (Zib n m):=fun _ _=>rfl;rw [hcmp,Ze];by_cases hlt:n<m
 ·have:Zib n m = -1:=by unfold Zib;rw [if_pos hlt]
  rw [this,show decide ((-1:Int)<0)=true from rfl,ZH,Nat.div_eq_of_lt hlt,Nat.mod_eq_of_lt hlt]
 have hc:decide (Zib n m<0)=false:=by unfold Zib;rw [if_neg hlt];split <;> rfl
 rw [hc,ZF];have hne:(Zm 18446744073709551616 m)≠[]:=(ZId (by decide)).2 h0;have hpos:=List.length_pos_iff.2 hne;by_cases h1:(Zm 18446744073709551616 m).length=1
 ·have e1:(((Zm 18446744073709551616 m).length:Int)==1)=true:=by simp;omega
  rw [e1,ZH];have hmB:m<18446744073709551616:=by have:=Zwd (B:=18446744073709551616) (by decide) m;rw [h1] at this;simpa using this
  rw [ZQk (by decide) h0 hmB,Ze];have:Z8e n (m:Int)=some (n / m,((n%m:Nat):Int)):=by unfold Z8e;rw [if_pos ⟨hn,by omega⟩];simp
  rw [this,Ze];show bnd (Zoc ((n%m:Nat):Int)) _=_;unfold Zoc;rw [Ze];rfl
 have e1:(((Zm 18446744073709551616 m).length:Int)==1)=false:=by simp;omega
 rw [e1,ZF];obtain ⟨k,hk⟩:∃ k,(Zm 18446744073709551616 m).length=k+2:=⟨(Zm 18446744073709551616 m).length-2,by omega⟩;have c1:chk .i64 (((Zm 18446744073709551616 m).length:Int)-1)=some ((k+1:Nat):Int):=by
  unfold okN at hm;rw [Zka (by omega) (by omega)];congr 1;omega
 rw [c1,Ze];have hdm:=Zxb (B:=18446744073709551616) (by decide) m;have hvm:=Zgb (B:=18446744073709551616) (by decide) m;have hcm:=Zej (B:=18446744073709551616) (by decide) m;have hmlt:=Zwd (B:=18446744073709551616) (by decide) m;have hmge:=Zli (B:=18446744073709551616) (by decide) h0;rw [hk] at hmlt hmge;obtain ⟨top,htop⟩:=Int.eq_ofNat_of_zero_le (hdm.get (i:=k+1) (by omega)).1;have htopB:=(hdm.get (i:=k+1) (by omega)).2;rw [htop] at htopB;have hi:idx (Zm 18446744073709551616 m) ((k+1:Nat):Int)=some (top:Int):=by rw [Z9 (by omega),htop]
 rw [hi,Ze];have htop0:top≠0:=by
  have e:(Zm 18446744073709551616 m).length-1=k+1:=by omega
  have:=hcm (Zm 18446744073709551616 m)[k+1] (by rw [List.getLast?_eq_getElem?];simp only [e];exact List.getElem?_eq_getElem _);rw [htop] at this;omega
 obtain ⟨t,ht⟩:=Ztg htop0;have hbl:bl top≤64:=ZSc (by omega);have htl:=Zef top;have hz:ZYe (top:Int)=some ((64-bl top:Nat):Int):=by
  unfold ZYe;rw [if_pos ⟨by omega,by omega⟩];congr 1;simp;omega
 rw [hz,Ze];obtain ⟨s,hs⟩:∃ s,s=64-bl top:=⟨_,rfl⟩;rw [← hs];have hp:0<2^s:=Nat.pow_pos (by omega);have hVlt:m*2^s<18446744073709551616^(k+2):=by
  have h3:=top2 (B:=18446744073709551616) (a:=Zm 18446744073709551616 m) (n:=k) hk;rw [hvm,htop] at h3;simp only [Int.toNat_natCast] at h3;have h4:=Zae (hdm.take (k+1));rw [List.length_take,Nat.min_eq_left (by omega)] at h4;have h5:=Zbe 18446744073709551616 (Zm 18446744073709551616 m) (k+1) (by omega);rw [hvm,Zbd (by omega),htop,List.drop_of_length_le (by omega)] at h5;simp only [val,Int.toNat_natCast,Nat.mul_zero,Nat.add_zero] at h5;have h6:m<18446744073709551616^(k+1)*(top+1):=by rw [Nat.mul_add];omega
  have h7:(top+1)*2^s≤18446744073709551616:=by
   have:=Nat.mul_le_mul_right (2^s) (show top+1≤2^bl top from htl);rw [← Nat.pow_add,show bl top+s=64 by omega] at this;exact this
  have h8:m*2^s<18446744073709551616^(k+1)*(top+1)*2^s:=Nat.mul_lt_mul_of_pos_right h6 hp;have h9:18446744073709551616^(k+1)*((top+1)*2^s)≤18446744073709551616^(k+1)*18446744073709551616:=Nat.mul_le_mul_left _ h7;rw [Nat.pow_succ _ (k+1)];rw [Nat.mul_assoc] at h8;omega
 obtain ⟨V,hV⟩:∃ V,V=m*2^s:=⟨_,rfl⟩;rw [← hV] at hVlt;have hmV:m≤V:=by rw [hV];exact Nat.le_mul_of_pos_right _ hp
 have hVl:(Zm 18446744073709551616 V).length=k+2:=by
  have h3:=Zqg (B:=18446744073709551616) (by decide) hVlt;have h4:=Z7d (B:=18446744073709551616) (by decide) hmV;omega
 have hVok:okN V:=by unfold okN at hm ⊢;omega
 have hV0:0<V:=by omega
 obtain ⟨A,hA⟩:∃ A,A=n*2^s:=⟨_,rfl⟩;have hAlt:A<18446744073709551616^((Zm 18446744073709551616 n).length+1):=by
  have h3:=Zwd (B:=18446744073709551616) (by decide) n;have h4:2^s≤2^64:=Nat.pow_le_pow_right (by omega) (by omega);rw [hA,Nat.pow_succ];exact Nat.lt_of_le_of_lt (Nat.mul_le_mul_left _ h4) (Nat.mul_lt_mul_of_pos_right h3 (by decide))
 have hAl:=Zqg (B:=18446744073709551616) (by decide) hAlt;have hVA:V≤A:=by rw [hV,hA];exact Nat.mul_le_mul_right _ (by omega)
 have hAV:=Z7d (B:=18446744073709551616) (by decide) hVA;have l1:Zje m (s:Int)=some V:=by unfold Zje;rw [if_pos ⟨hm,by omega,by omega⟩,hV];simp
 have l2:Zje n (s:Int)=some A:=by unfold Zje;rw [if_pos ⟨hn,by omega,by omega⟩,hA];simp
 unfold okN at hn hm;rw [l1,Ze,l2,Ze];have hdA:=Zxb (B:=18446744073709551616) (by decide) A;have hvA:=Zgb (B:=18446744073709551616) (by decide) A;rw [hVl] at hAV ⊢;generalize Zm 18446744073709551616 A=w at *;have r1:Z4a 8 (([]:List Int)++w)=some ():=by unfold Z4a;rw [if_pos (by simp;omega)]
 have r2:Z4a 8 ((([]:List Int)++w)++[(0:Int)])=some ():=by unfold Z4a;rw [if_pos (by simp;omega)]
 rw [r1,Ze,r2,Ze,List.nil_append];obtain ⟨u,hu⟩:∃ u,u=w++[(0:Int)]:=⟨_,rfl⟩;have hul:u.length=w.length+1:=by rw [hu];simp
 have hud:Dig 18446744073709551616 u:=by rw [hu];exact Dig.append.2 ⟨hdA,Dig.cons.2 ⟨by omega,Dig.nil⟩⟩
 have huv:val 18446744073709551616 u=A:=by rw [hu,ZTd,hvA];simp [val]
 rw [← hu];obtain ⟨j0,hj0⟩:∃ j0,w.length+1=k+2+j0+1:=⟨w.length-(k+2),by omega⟩;have c2:chk .i64 ((u.length:Int)-((k+2:Nat):Int))=some ((j0+1:Nat):Int):=Z0i (by omega) (by omega);obtain ⟨x,hx⟩:=Z3d (b:=8) (l:=((j0+1:Nat):Int)) (c:=((j0+1:Nat):Int)) (by omega) (by omega) (by omega) (by omega);have c3:chk .i64 ((((List.replicate (j0+1) (0:Int)).length:Nat):Int)-1)=some ((j0:Nat):Int):=by
  rw [List.length_replicate];exact Z0i (by omega) (by omega)
 rw [c2,Ze,hx,Ze,Int.toNat_natCast,c3,Ze,Zab];refine Znb (fun st:(List Int)×(List Int)×Int=>∃ j:Nat,st.2.2=(j:Int)-1∧j≤j0+1∧st.1.length=u.length∧Dig 18446744073709551616 st.1∧st.2.1.length=j0+1 ∧
  val 18446744073709551616 (st.1.drop j)<V∧val 18446744073709551616 st.1+V*(18446744073709551616^j*val 18446744073709551616 (st.2.1.drop j))=A) (fun st=>(st.2.2+1).toNat)
  (fun r:(List Int)×(List Int)=>Dig 18446744073709551616 r.1∧val 18446744073709551616 r.1<V∧val 18446744073709551616 r.1+V*val 18446744073709551616 r.2=A)
  ⟨j0+1,by simp,by omega,rfl,hud,by simp,?_,by simp [val,huv]⟩ (Z1a (by simp;omega)) ?_ ?_
 · -- the greatest words are below the divisor
  have h3:=Zbe 18446744073709551616 u (j0+1) (by omega);have h4:u.drop (j0+1)=w.drop (j0+1)++[0]:=by rw [hu,List.drop_append_of_le_length (by omega)]
  have h5:=Zae (hdA.drop (j0+1));rw [List.length_drop,show w.length-(j0+1)=k+1 by omega] at h5;rw [h4,ZTd];simp [val];have:18446744073709551616^(k+2-1)=18446744073709551616^(k+1):=rfl;omega
 ·rintro ⟨o,q,i⟩ ⟨j,e,hj,hol,hod,hql,hltV,hinv⟩;simp only at e hol hod hql hltV hinv ⊢;subst e;by_cases hj0':0<j
  ·left;obtain ⟨i,rfl⟩:∃ i,j=i+1:=⟨j-1,by omega⟩;have ei:((i+1:Nat):Int)-1=(i:Int):=by omega
   rw [ei,decide_eq_true (by omega),ZH];have d1:chk .i64 ((i:Int)+((k+2:Nat):Int))=some ((i+k+2:Nat):Int):=Z0i (by omega) (by omega);have d2:chk .i64 (((i+k+2:Nat):Int)+1)=some ((i+k+3:Nat):Int):=Z0i (by omega) (by omega);obtain ⟨seg,hseg⟩:∃ seg,seg=(o.take (i+k+3)).drop i:=⟨_,rfl⟩;have hsl:seg.length=k+3:=by rw [hseg,List.length_drop,List.length_take,Nat.min_eq_left (by omega)];omega
   have d3:cutP o (i:Int) ((i+k+3:Nat):Int)=some seg:=by
    unfold cutP;rw [if_pos ⟨by omega,by omega,by omega⟩,hseg];rfl
   have hsd:Dig 18446744073709551616 seg:=by rw [hseg];exact (hod.take _).drop _
   have hdropi:val 18446744073709551616 (o.drop i)<V*18446744073709551616:=by
    rw [Zbd (by omega)];have:=(hod.get (i:=i) (by omega)).2;have h3:18446744073709551616*(val 18446744073709551616 (o.drop (i+1))+1)≤18446744073709551616*V:=Nat.mul_le_mul_left _ hltV;rw [Nat.mul_add] at h3;rw [Nat.mul_comm V];omega
   have hsplit:o.drop i=seg++o.drop (i+k+3):=by
    have h3:=List.take_append_drop (i+k+3) o;have h4:o.drop i=((o.take (i+k+3))++o.drop (i+k+3)).drop i:=by rw [h3]
    rw [h4,List.drop_append_of_le_length (by rw [List.length_take];omega),hseg]
   have hhigh:val 18446744073709551616 (o.drop (i+k+3))=0:=by
    rcases Nat.eq_zero_or_pos (val 18446744073709551616 (o.drop (i+k+3))) with h | h
    ·exact h
    ·exfalso;rw [hsplit,ZTd,hsl] at hdropi;have h3:18446744073709551616^(k+3)*1≤18446744073709551616^(k+3)*val 18446744073709551616 (o.drop (i+k+3)):=Nat.mul_le_mul_left _ h;have h4:V*18446744073709551616≤18446744073709551616^(k+2)*18446744073709551616:=Nat.mul_le_mul_right _ (by omega);have h5:18446744073709551616^(k+3)=18446744073709551616^(k+2)*18446744073709551616:=Nat.pow_succ ..;generalize 18446744073709551616^(k+3)=g3 at *;generalize 18446744073709551616^(k+2)=g2 at *;omega
   have hsv:val 18446744073709551616 (o.drop i)=val 18446744073709551616 seg:=by rw [hsplit,ZTd,hhigh];simp
   have d4:Zoh seg V=some (((val 18446744073709551616 seg / V:Nat):Int),ZGc seg.length (val 18446744073709551616 seg%V)):=by
    unfold Zoh;rw [if_pos ⟨hVok,by omega,by omega,by omega⟩]
   have hiq:i<q.length:=by omega
   have d5:chk .i64 ((i:Int)-1)=some ((i:Int)-1):=Zka (by omega) (by omega);simp only [d1,Ze,d2,d3,d4,Z9 hiq,d5,Int.toNat_natCast];obtain ⟨r,hr⟩:∃ r,r=ZGc seg.length (val 18446744073709551616 seg%V):=⟨_,rfl⟩;have hrl:r.length=k+3:=by rw [hr,Zro,hsl]
   have hrd:Dig 18446744073709551616 r:=by rw [hr];exact Zpm _ _
   have hmodlt:=Nat.mod_lt (val 18446744073709551616 seg) hV0;have hrv:val 18446744073709551616 r=val 18446744073709551616 seg%V:=by
    rw [hr,hsl];apply ZIm;have:18446744073709551616^(k+2)≤18446744073709551616^(k+3):=Nat.pow_le_pow_right (by omega) (by omega);omega
   rw [← hr];have htk:(o.take i).length=i:=by rw [List.length_take,Nat.min_eq_left (by omega)]
   have hnew:(o.take i++r++o.drop (i+k+3)).drop i=r++o.drop (i+k+3):=by
    rw [List.append_assoc,List.drop_append_of_le_length (by omega),List.drop_of_length_le (by omega),List.nil_append]
   have hnewv:val 18446744073709551616 ((o.take i++r++o.drop (i+k+3)).drop i)=val 18446744073709551616 seg%V:=by
    rw [hnew,ZTd,hhigh,hrv];simp
   refine ⟨_,rfl,⟨i,rfl,by omega,?_,?_,by simp [hql],by rw [hnewv];exact hmodlt,?_⟩,by simp⟩
   ·rw [List.length_append,List.length_append,htk,hrl,List.length_drop];omega
   ·exact Dig.append.2 ⟨Dig.append.2 ⟨hod.take _,hrd⟩,hod.drop _⟩
   ·rw [Zbd (by simp;omega),List.getElem_set_self,List.drop_set_of_lt (by omega)];simp only [Int.toNat_natCast];rw [Nat.pow_succ] at hinv;refine ZVp (seg:=val 18446744073709551616 seg) (low:=val 18446744073709551616 (o.take i)) hinv ?_ ?_ rfl
    ·rw [Zbe 18446744073709551616 o i (by omega),hsv]
    ·have h3:=Zbe 18446744073709551616 (o.take i++r++o.drop (i+k+3)) i (by rw [List.length_append,List.length_append,htk];omega);rw [hnewv] at h3;have h4:(o.take i++r++o.drop (i+k+3)).take i=o.take i:=by
      rw [List.append_assoc,List.take_append_of_le_length (by omega),List.take_of_length_le (by omega)]
     rw [h3,h4]
  ·right;have hjz:j=0:=by omega
   subst hjz;rw [decide_eq_false (by simp),ZF];simp only [List.drop_zero,Nat.pow_zero,Nat.one_mul] at hltV hinv;exact ⟨_,rfl,hod,hltV,hinv⟩
 ·rintro ⟨o,q⟩ ⟨hod,hltV,hinv⟩;simp only at hod hltV hinv;rw [Ze];have f1:Z0b q=some (val 18446744073709551616 q):=rfl;have f2:Z0b o=some (val 18446744073709551616 o):=rfl;simp only [f1,f2,Ze];have hrok:okN (val 18446744073709551616 o):=by
   have:=Z7d (B:=18446744073709551616) (by decide) (Nat.le_of_lt hltV);unfold okN;omega
  have f3:ZYg (val 18446744073709551616 o) (s:Int)=some (val 18446744073709551616 o / 2^s):=by
   unfold ZYg;rw [if_pos ⟨hrok,by omega⟩];simp
  rw [f3,Ze];have g1:n / m=val 18446744073709551616 q:=by
   have h3:=Nat.mul_div_mul_right n m hp;rw [← hA,← hV,← hinv,Nat.add_comm,Nat.mul_add_div hV0,Nat.div_eq_of_lt hltV,Nat.add_zero] at h3;exact h3.symm
  have g2:n%m*2^s=val 18446744073709551616 o:=by
   have h3:=Nat.mul_mod_mul_right (2^s) n m;rw [← hA,← hV,← hinv,Nat.add_comm,Nat.mul_add_mod,Nat.mod_eq_of_lt hltV] at h3;exact h3.symm
  rw [g1,← g2,Nat.mul_div_cancel _ hp]
theorem ZKr {n m:Nat} {z:Nat×Nat} (h:Zif n m=some z):Z3h n m=some z:=by
 unfold Zif at h;split at h
 ·rename_i hh;rw [Z1q hh.1 hh.2.1 hh.2.2,← h]
 ·cases h
noncomputable def Zti (a:Nat) (b:Nat):Option (Nat) :=
 bnd (bnd (Z7 (fun s:Nat×Nat=>match s with
 | (d,c) =>
 (ifb (decide ((0:Int)<(((Zm 18446744073709551616 c)).length:Int)))
 (bnd (ifb (decide ((((Zm 18446744073709551616 d)).length:Int)≤(1:Int)))
 (some (decide ((((Zm 18446744073709551616 c)).length:Int)≤(1:Int))))
 (some false))
 (fun (e:Bool) =>
 (ifb (e)
 (bnd (Z9g d c) fun f =>
 bnd (Zoc f) fun g =>
 some (.inr ((.inl g))))
 (bnd (Zif d c) fun h =>
 some (.inl ((c,h.2)))))))
 (some (.inr ((.inr d)))))) Zga ((a,b)))
 (fun (p:(Nat) ⊕ (Nat))=>match p with
 | .inl i =>
 (some ((.inr i)))
 | .inr j =>
 (some ((.inl j)))))
 (fun (p:(Nat) ⊕ (Nat))=>match p with
 | .inl k =>
 (some k)
 | .inr l =>
 (some l))
noncomputable def Zpk (s:Bool) (n:Nat):Option (Int) :=
 bnd (ifb (s)
 (some ((decide ((0:Int)<(((Zm 18446744073709551616 n)).length:Int)),n)))
 (some ((false,n))))
 (fun (a:(Bool×Nat)) =>
 (bnd (Zof a.1 a.2) fun b =>
 some b))
theorem Zyf {n m:Nat} (h:n≤m):bl n≤bl m:=ZSc (Nat.lt_of_le_of_lt h (Zef m))
theorem Z1m {a b:Nat} (h:b≤a) (h0:b≠0):bl (a%b)+1≤bl a:=by
 have ha:a≠0:=by omega
 obtain ⟨k,hk⟩:=Ztg ha;have h1:=(ZAg ha).1 hk;have h2:a%b<b:=Nat.mod_lt _ (by omega);have h3:a%b+b≤a:=by
  have h4:=Nat.div_add_mod a b;have h5:1≤a / b:=(Nat.le_div_iff_mul_le (by omega)).2 (by omega);have h6:b*1≤b*(a / b):=Nat.mul_le_mul_left _ h5;omega
 have h4:a%b<2^k:=by
  rw [Nat.pow_succ] at h1;omega
 have:=ZSc h4;omega
theorem ZVh {n m:Nat} (h:n≤m) (hm:okN m):okN n:=by
 have:=Z7d (B:=18446744073709551616) (by decide) h;unfold okN at *;omega
theorem Zem {n:Nat} (h:okN n):bl n≤4398046511104:=by
 unfold okN at h;have h1:=Zwd (B:=18446744073709551616) (by decide) n;have h2:18446744073709551616^(Zm 18446744073709551616 n).length=2^(64*(Zm 18446744073709551616 n).length):=by rw [Nat.pow_mul]
 rw [h2] at h1;have:=ZSc h1;omega
theorem ZXo {n:Nat} (h:(Zm 18446744073709551616 n).length≤1):n<18446744073709551616:=by
 have h1:=Zwd (B:=18446744073709551616) (by decide) n;have h2:18446744073709551616^(Zm 18446744073709551616 n).length≤18446744073709551616^1:=Nat.pow_le_pow_right (by omega) h;rw [Nat.pow_one] at h2;omega
theorem gcd_eq {n m:Nat} (hn:okN n) (hm:okN m):Zti n m=some (Nat.gcd n m):=by
 unfold Zti;rw [Zab];refine Znb (fun s:Nat×Nat=>okN s.1∧okN s.2∧Nat.gcd s.1 s.2=Nat.gcd n m) (fun s=>2*(bl s.1+bl s.2)+if s.1<s.2 then 1 else 0) (fun r:Nat ⊕ Nat=>r = .inl (Nat.gcd n m)∨r = .inr (Nat.gcd n m)) ⟨hn,hm,rfl⟩
  (Z1a (by have:=Zem hn;have:=Zem hm;simp only;split <;> omega)) ?_ ?_
 ·rintro ⟨a,b⟩ ⟨ha,hb,hg⟩;simp only at ha hb hg ⊢;by_cases h0:b=0
  ·right;subst h0;rw [Zcb];refine ⟨_,rfl,.inr ?_⟩;rw [← hg,Nat.gcd_zero_right]
  ·have hpos:=List.length_pos_iff.2 ((ZId (n:=b) (B:=18446744073709551616) (by decide)).2 h0);rw [decide_eq_true (show (0:Int)<((Zm 18446744073709551616 b).length:Int) by omega),ZH];have cond:ifb (decide (((Zm 18446744073709551616 a).length:Int)≤1)) (some (decide (((Zm 18446744073709551616 b).length:Int)≤1))) (some false)=some (decide ((Zm 18446744073709551616 a).length≤1∧(Zm 18446744073709551616 b).length≤1)):=by
    by_cases q:(Zm 18446744073709551616 a).length≤1
    ·rw [decide_eq_true (by omega),ZH];exact congrArg some (decide_eq_decide.2 (by omega))
    ·rw [decide_eq_false (by omega),ZF,decide_eq_false (by omega)]
   rw [cond,Ze];by_cases hc:(Zm 18446744073709551616 a).length≤1∧(Zm 18446744073709551616 b).length≤1
   ·right;rw [decide_eq_true hc,ZH];have h1:Z9g a b=some ((Nat.gcd a b:Nat):Int):=by unfold Z9g;rw [if_pos ⟨ZXo hc.1,ZXo hc.2,h0⟩]
    rw [h1,Ze];have h2:Zoc ((Nat.gcd a b:Nat):Int)=some (Nat.gcd a b):=rfl;rw [h2,Ze,hg];exact ⟨_,rfl,.inl rfl⟩
   ·left;rw [decide_eq_false hc,ZF];have h1:Zif a b=some (a / b,a%b):=by unfold Zif;rw [if_pos ⟨ha,hb,h0⟩]
    rw [h1,Ze];have hlt:a%b<b:=Nat.mod_lt _ (by omega);refine ⟨_,rfl,⟨hb,ZVh (Nat.le_of_lt hlt) hb,?_⟩,?_⟩
    ·rw [← hg];simp only;rw [Nat.gcd_comm b,← Nat.gcd_rec,Nat.gcd_comm]
    ·simp only;rw [if_neg (by omega)];by_cases hab:a<b
     ·rw [if_pos hab,Nat.mod_eq_of_lt hab];omega
     ·have:=Z1m (a:=a) (b:=b) (by omega) h0;rw [if_neg hab];omega
 ·rintro r (rfl | rfl)
  ·rfl
  ·rfl
theorem gcdF_eq {n m z:Nat} (h:gcdF n m=some z):Zti n m=some z:=by
 unfold gcdF at h;split at h
 ·rename_i hh;rw [gcd_eq hh.1 hh.2,← h]
 ·cases h
noncomputable def of_m (n:Int):Option (Int) :=
 ifb (decide (n<(0:Int)))
 (bnd (Zoc (IntKind.u64.wrap (-(IntKind.u64.wrap n)))) fun a =>
 bnd (Zof true a) fun b =>
 some b)
 (bnd (Zoc (IntKind.u64.wrap n)) fun c =>
 bnd (Zof false c) fun d =>
 some d)
noncomputable def Znj (d:Nat):Option (Nat) :=
 ifb (((((Zm 18446744073709551616 d)).length:Int))==(0:Int))
 (bnd (Zoc (1:Int)) fun a =>
 some a)
 (some d)
noncomputable def ZMj (x:Int):Option (Int) :=
 ifb (decide (x<0))
 (some (-1:Int))
 (ifb (decide ((0:Int)<(((Zm 18446744073709551616 x.natAbs)).length:Int)))
 (some (1:Int))
 (some (0:Int)))
theorem ZIn {n:Nat}:0<(Zm 18446744073709551616 n).length↔n≠0:=List.length_pos_iff.trans (ZId (by decide))
theorem ZUo {n:Nat}:decide ((0:Int)<((Zm 18446744073709551616 n).length:Int))=decide (n≠0) :=
 decide_eq_decide.2 (Int.natCast_pos.trans ZIn)
theorem Z3o {n:Nat}:(((Zm 18446744073709551616 n).length:Int)==0)=decide (n=0):=by
 by_cases h:n=0
 ·subst h;rw [Zcb];rfl
 ·rw [decide_eq_false h];have:=ZIn.2 h;exact beq_eq_false_iff_ne.2 (by omega)
theorem Zlg {s:Bool} {n:Nat} (h:s=true→n≠0):Zof s n=some (if s then -(n:Int) else n):=by
 unfold Zof;rw [if_neg (fun hh=>h hh.1 hh.2)]
theorem Z1p {s:Bool} {n:Nat} {z:Int} (h:ZUb s n=some z):Zpk s n=some z:=by
 unfold ZUb at h;unfold Zpk
 cases s
 ·rw [ZF,Ze,Zlg (by simp),Ze,← h]
 ·rw [ZH,Ze,ZUo];by_cases h0:n=0
  ·subst h0;rw [Zlg (by simp),Ze,← h];simp
  ·rw [decide_eq_true h0,Zlg (by simpa using h0),Ze,← h]
theorem ofF_eq {n z:Int} (hn:inR .i64 n) (h:ofF n=some z):of_m n=some z:=by
 have hr:=Zqc.1 hn;unfold ofF at h
 cases h
 unfold of_m Zoc;rw [wrap_u64,wrap_u64];by_cases hc:n<0
 ·rw [decide_eq_true hc,ZH,Ze,Zlg (by omega),Ze];simp only [if_true];congr 1;omega
 ·rw [decide_eq_false hc,ZF,Ze,Zlg (by simp),Ze];have:((n%18446744073709551616).toNat:Int)=n:=by omega
  simp [this]
theorem Zps {d z:Nat} (h:ZSd d=some z):Znj d=some z:=by
 unfold ZSd Z4f at h;unfold Znj;rw [Z3o];by_cases h0:d=0
 ·subst h0;rw [decide_eq_true rfl,ZH,← h];rfl
 ·rw [decide_eq_false h0,ZF,← h,if_neg h0]
theorem Zcq {x z:Int} (h:Z4h x=some z):ZMj x=some z:=by
 unfold Z4h at h
 cases h
 unfold ZMj;rw [ZUo];by_cases h1:x<0
 ·rw [decide_eq_true h1,ZH,Int.sign_eq_neg_one_of_neg h1]
 ·rw [decide_eq_false h1,ZF];by_cases h2:x=0
  ·subst h2;rfl
  ·rw [decide_eq_true (by omega),ZH,Int.sign_eq_one_of_pos (by omega)]
noncomputable def Znk (x:Int) (y:Int):Option (Int) :=
 ifb ((decide (x<0))==(decide (y<0)))
 (bnd (Zug x.natAbs y.natAbs) fun a =>
 bnd (ZUb (decide (x<0)) a) fun b =>
 some b)
 (bnd (ZNe x.natAbs y.natAbs) fun c =>
 ifb (decide ((0:Int)≤c))
 (bnd (Z7g x.natAbs y.natAbs) fun d =>
 bnd (ZUb (decide (x<0)) d) fun e =>
 some e)
 (bnd (Z7g y.natAbs x.natAbs) fun f =>
 bnd (ZUb (decide (y<0)) f) fun g =>
 some g))
noncomputable def ZDk (x:Int) (y:Int):Option (Int) :=
 bnd (Z8c x.natAbs y.natAbs) fun a =>
 bnd (ZUb ((decide (x<0)) != (decide (y<0))) a) fun b =>
 some b
noncomputable def ZGk (x:Int) (n:Nat):Option (Int) :=
 bnd (Z8c x.natAbs n) fun a =>
 bnd (ZUb (decide (x<0)) a) fun b =>
 some b
noncomputable def Zkk (x:Int):Option (Int) :=
 bnd (ZUb (!(decide (x<0))) x.natAbs) fun a =>
 some a
noncomputable def ZOj (n:Int):Option (Rat) :=
 bnd (ofF n) fun a =>
 bnd (ZCf a ((0:Nat))) fun b =>
 some b
noncomputable def Z9i (n:Int) (d:Nat):Option (Rat) :=
 bnd (gcdF n.natAbs d) fun a =>
 bnd (Zcg a) fun e =>
 bnd (ifb (!(e))
 (bnd (Zif n.natAbs a) fun f =>
 bnd (Zif d a) fun g =>
 some ((g.1,(decide (n<0),f.1))))
 (some ((d,(decide (n<0),n.natAbs)))))
 (fun (p:Nat×(Bool×Nat))=>match p with
 | (b,c) =>
 (bnd (Zcg b) fun h =>
 bnd (ifb (h)
 (some ((0:Nat)))
 (some b))
 (fun (i:Nat) =>
 (bnd (Zof c.1 c.2) fun j =>
 bnd (ZCf j i) fun k =>
 some k))))
noncomputable def Zbk (x:Rat):Option (Bool) :=
 some (((((Zm 18446744073709551616 ((x.num).natAbs))).length:Int))==(0:Int))
noncomputable def Zyj (x:Rat) (y:Rat):Option (Bool) :=
 bnd (ifb ((decide (x.num<0))==(decide (y.num<0)))
 (bnd (ZNe ((x.num).natAbs) ((y.num).natAbs)) fun a =>
 ifb (a==(0:Int))
 (bnd (ZNe ((Zfb x.den)) ((Zfb y.den))) fun b =>
 some (b==(0:Int)))
 (some false))
 (some false))
 (fun (c:Bool) =>
 (some c))
theorem ZPr {x y z:Int} (h:ZNh x y=some z):Znk x y=some z:=by
 unfold ZNh at h;split at h
 ·rename_i hh;obtain ⟨hx,hy⟩:=hh
  cases h
  unfold Znk ZUb Zug Z7g ZNe;by_cases hs:decide (x<0)=decide (y<0)
  ·rw [hs,show (decide (y<0)==decide (y<0))=true by simp,ZH,if_pos ⟨hx,hy⟩,Ze,Ze];by_cases h0:y<0
   ·rw [decide_eq_true h0] at hs ⊢;have hx0:=of_decide_eq_true hs;rw [if_pos rfl];congr 1;omega
   ·rw [decide_eq_false h0] at hs ⊢;have hx0:=of_decide_eq_false hs;rw [if_neg (by simp)];congr 1;omega
  ·have e:(decide (x<0)==decide (y<0))=false:=by simpa using hs
   rw [e,ZF,Ze];have hxy:(x<0∧¬ y<0)∨(¬ x<0∧y<0):=by
    by_cases h1:x<0 <;> by_cases h2:y<0 <;> simp [h1,h2] at hs ⊢
   by_cases hc:y.natAbs≤x.natAbs
   ·have:decide (0≤Zib x.natAbs y.natAbs)=true:=by
     unfold Zib;rw [if_neg (by omega)];split <;> rfl
    rw [this,ZH,if_pos ⟨hx,hc⟩,Ze,Ze];rcases hxy with ⟨h1,h2⟩ | ⟨h1,h2⟩
    ·rw [decide_eq_true h1,if_pos rfl];congr 1;omega
    ·rw [decide_eq_false h1,if_neg (by simp)];congr 1;omega
   ·have:decide (0≤Zib x.natAbs y.natAbs)=false:=by
     unfold Zib;rw [if_pos (by omega)];rfl
    rw [this,ZF,if_pos ⟨hy,by omega⟩,Ze,Ze];rcases hxy with ⟨h1,h2⟩ | ⟨h1,h2⟩
    ·rw [decide_eq_false h2,if_neg (by simp)];congr 1;omega
    ·rw [decide_eq_true h2,if_pos rfl];congr 1;omega
 ·cases h
theorem Zjn {x y:Int}:(if (decide (x<0) != decide (y<0))=true then -((x.natAbs*y.natAbs:Nat):Int) else ((x.natAbs*y.natAbs:Nat):Int))=x*y:=by
 rw [Int.natCast_mul];by_cases h1:x<0 <;> by_cases h2:y<0
 ·simp only [h1,h2,decide_true,bne_self_eq_false,Bool.false_eq_true,if_false];rw [Int.ofNat_natAbs_of_nonpos (by omega),Int.ofNat_natAbs_of_nonpos (by omega),Int.neg_mul_neg]
 ·simp only [h1,h2,decide_true,decide_false];rw [Int.ofNat_natAbs_of_nonpos (by omega),Int.natAbs_of_nonneg (by omega)];simp [Int.neg_mul]
 ·simp only [h1,h2,decide_true,decide_false];rw [Int.natAbs_of_nonneg (by omega),Int.ofNat_natAbs_of_nonpos (by omega)];simp [Int.mul_neg]
 ·simp only [h1,h2,decide_false,bne_self_eq_false,Bool.false_eq_true,if_false];rw [Int.natAbs_of_nonneg (by omega),Int.natAbs_of_nonneg (by omega)]
theorem Zir {x y z:Int} (h:ZRi x y=some z):ZDk x y=some z:=by
 unfold ZRi at h;split at h
 ·rename_i hh
  cases h
  unfold ZDk ZUb Z8c;rw [if_pos hh,Ze,Ze,Zjn]
 ·cases h
theorem Zas {x z:Int} {n:Nat} (h:Z2f x n=some z):ZGk x n=some z:=by
 unfold Z2f at h;split at h
 ·rename_i hh
  cases h
  unfold ZGk ZUb Z8c;rw [if_pos hh,Ze,Ze];have:=Zjn (x:=x) (y:=(n:Int));have h0:decide ((n:Int)<0)=false:=decide_eq_false (by omega);rw [h0] at this;simp only [Int.natAbs_natCast,Bool.bne_false] at this;rw [this]
 ·cases h
theorem ZVq {x z:Int} (h:ZKi x=some z):Zkk x=some z:=by
 unfold ZKi at h
 cases h
 unfold Zkk ZUb;rw [Ze];by_cases h1:x<0
 ·rw [decide_eq_true h1];simp;omega
 ·rw [decide_eq_false h1];simp;omega
theorem Z7r {n:Int} {z:Rat} (h:Zvd n=some z):ZOj n=some z:=by
 unfold Zvd at h
 cases h
 unfold ZOj ofF;rw [Ze];have:=ZGl (n:Rat);have e:Zfb (n:Rat).den=0:=by simp [Zfb]
 rw [e] at this;have e2:(n:Rat).num=n:=by simp
 rw [e2] at this;rw [this,Ze]
theorem ZEs {x:Rat} {z:Bool} (h:ZPi x=some z):Zbk x=some z:=by
 unfold ZPi at h;unfold Zbk;rw [Z3o,← h];congr 1;apply decide_eq_decide.2;rw [Int.natAbs_eq_zero,Rat.num_eq_zero]
theorem ZMp {a b:Nat} (ha:a≠0) (hb:b≠0) (h:Zfb a=Zfb b):a=b:=by
 have h1:=Z6j a ha;have h2:=Z6j b hb;rw [← h1,← h2,h]
theorem ZQm {n m:Nat}:(Zib n m==0)=decide (n=m):=by
 unfold Zib;by_cases h:n<m
 ·rw [if_pos h,decide_eq_false (by omega)];rfl
 ·rw [if_neg h];by_cases h2:m<n
  ·rw [if_pos h2,decide_eq_false (by omega)];rfl
  ·rw [if_neg h2,decide_eq_true (by omega)];rfl
theorem ZQs {x y:Rat} {z:Bool} (h:Zrg x y=some z):Zyj x y=some z:=by
 unfold Zrg at h
 cases h
 unfold Zyj ZNe;by_cases hxy:x=y
 ·subst hxy;simp only [beq_self_eq_true,ZH,Ze,ZQm,decide_true]
 ·rw [decide_eq_false hxy];by_cases hs:decide (x.num<0)=decide (y.num<0)
  ·rw [hs];simp only [beq_self_eq_true,ZH,Ze,ZQm];by_cases hn:x.num.natAbs=y.num.natAbs
   ·rw [decide_eq_true hn,ZH,Ze];have hnum:x.num=y.num:=by
     by_cases h1:x.num<0 <;> by_cases h2:y.num<0 <;> simp [h1,h2] at hs <;> omega
    have hden:¬ Zfb x.den=Zfb y.den:=fun e=>hxy (Rat.ext hnum (ZMp x.den_nz y.den_nz e));rw [decide_eq_false hden]
   ·rw [decide_eq_false hn,ZF,Ze]
  ·have e:(decide (x.num<0)==decide (y.num<0))=false:=by simpa using hs
   rw [e,ZF,Ze]
theorem ZUs {n:Int} {d:Nat} {z:Rat} (h:ZZc n d=some z):Z9i n d=some z:=by
 unfold ZZc at h;split at h
 ·rename_i hh;obtain ⟨hn,hd,h0⟩:=hh
  cases h
  unfold Z9i gcdF Zcg Zif;rw [if_pos ⟨hn,hd⟩,Ze,Ze];obtain ⟨g,hg⟩:∃ g,g=Nat.gcd n.natAbs d:=⟨_,rfl⟩;have hg0:g≠0:=by rw [hg];exact fun e=>h0 (Nat.gcd_eq_zero_iff.1 e).2
  have hgd:g∣d:=by rw [hg];exact Nat.gcd_dvd_right _ _
  have hgn:g∣n.natAbs:=by rw [hg];exact Nat.gcd_dvd_left _ _
  have hgok:okN g:=ZVh (Nat.le_of_dvd (by omega) hgd) hd;rw [← hg];have both:ifb (!decide (g=1)) (bnd (if okN n.natAbs∧okN g∧g≠0 then some (n.natAbs / g,n.natAbs%g) else none) fun y107=>bnd (if okN d∧okN g∧g≠0 then some (d / g,d%g) else none) fun y135=>some (y135.1,(decide (n<0),y107.1)))
    (some (d,(decide (n<0),n.natAbs)))=some (d / g,(decide (n<0),n.natAbs / g)):=by
   by_cases h1:g=1
   ·rw [decide_eq_true h1,h1];simp [ifb]
   ·rw [decide_eq_false h1,if_pos ⟨hn,hgok,hg0⟩,if_pos ⟨hd,hgok,hg0⟩];rfl
  rw [both,Ze];simp only;rw [Ze];have hden:ifb (decide (d / g=1)) (some 0) (some (d / g))=some (Zfb (d / g)):=by
   unfold Zfb;by_cases h1:d / g=1
   ·rw [decide_eq_true h1,ZH,if_pos h1]
   ·rw [decide_eq_false h1,ZF,if_neg h1]
  rw [hden,Ze];have hq:mkRat n d=mkRat n d:=rfl;have e1:(mkRat n d).num=n / (g:Int):=by rw [Rat.num_mkRat,if_neg h0,Nat.gcd_comm,← hg]
  have e2:(mkRat n d).den=d / g:=by rw [Rat.den_mkRat,if_neg h0,Nat.gcd_comm,← hg]
  have hgpos:0<g:=by omega
  obtain ⟨c,hc⟩:=hgn;have hcd:n.natAbs / g=c:=by rw [hc,Nat.mul_div_cancel_left _ hgpos]
  have e3:Zof (decide (n<0)) (n.natAbs / g)=some (n / (g:Int)):=by
   rw [hcd];by_cases hneg:n<0
   ·rw [decide_eq_true hneg,Zlg (fun _ e=>by rw [e] at hc;omega),if_pos rfl];have:n=(g:Int)*(-(c:Int)):=by
     have h1:(n.natAbs:Int)=(g:Int)*c:=by rw [hc];simp
     rw [Int.mul_neg,← h1];omega
    rw [this,Int.mul_ediv_cancel_left _ (by omega)]
   ·rw [decide_eq_false hneg,Zlg (by simp)];have:n=(g:Int)*(c:Int):=by
     have h1:(n.natAbs:Int)=(g:Int)*c:=by rw [hc];simp
     rw [← h1];omega
    rw [this,Int.mul_ediv_cancel_left _ (by omega)];simp
  rw [e3,Ze,← e1,← e2,ZGl,Ze]
 ·cases h
noncomputable def ZWj (x:Rat) (y:Rat):Option (Rat) :=
 bnd (ZSd ((Zfb x.den))) fun a =>
 bnd (ZSd ((Zfb y.den))) fun b =>
 bnd (Z2f x.num b) fun c =>
 bnd (Z2f y.num a) fun d =>
 bnd (ZNh c d) fun e =>
 bnd (Z8c a b) fun f =>
 bnd (ZZc e f) fun g =>
 some g
noncomputable def ZAj (x:Rat) (y:Rat):Option (Rat) :=
 bnd (ZRi x.num y.num) fun a =>
 bnd (ZSd ((Zfb x.den))) fun b =>
 bnd (ZSd ((Zfb y.den))) fun c =>
 bnd (Z8c b c) fun d =>
 bnd (ZZc a d) fun e =>
 some e
noncomputable def Z7i (x:Rat):Option (Rat) :=
 bnd (ZKi x.num) fun a =>
 bnd (ZCf a ((Zfb x.den))) fun b =>
 some b
noncomputable def ZEj (x:Rat):Option (Int) :=
 bnd (Z4h x.num) fun a =>
 some a
theorem ZNg (q:Rat):Z4f (Zfb q.den)=q.den:=Z6j q.den q.den_nz
theorem okN_of {n k:Nat} (h:bl n≤64*k) (hk:k≤68719476736):okN n:=by
 unfold okN;refine Nat.le_trans (Zqg (B:=18446744073709551616) (k:=k) (by decide) ?_) hk;have h1:=Zef n;have h2:18446744073709551616^k=2^(64*k):=by rw [Nat.pow_mul]
 rw [h2];exact Nat.lt_of_lt_of_le h1 (Nat.pow_le_pow_right (by omega) h)
theorem Zqb {n:Nat} (h:bl n≤4398046511104):okN n:=okN_of (k:=(bl n+63) / 64) (by omega) (by omega)
theorem Z8b (a b:Nat):bl (a*b)≤bl a+bl b:=by
 apply ZSc;rw [Nat.pow_add];exact Nat.mul_lt_mul'' (Zef a) (Zef b)
theorem Z9k (a b:Nat):bl (a+b)≤max (bl a) (bl b)+1:=by
 apply ZSc;have h1:=Zef a;have h2:=Zef b;have h3:2^bl a≤2^max (bl a) (bl b):=Nat.pow_le_pow_right (by omega) (Nat.le_max_left ..);have h4:2^bl b≤2^max (bl a) (bl b):=Nat.pow_le_pow_right (by omega) (Nat.le_max_right ..);rw [Nat.pow_succ];omega
theorem ZJr {x y z:Rat} (h:ZIb x y=some z):ZWj x y=some z:=by
 unfold ZIb at h;split at h
 ·rename_i hh;obtain ⟨⟨h1,h2⟩,h3,h4⟩:=hh
  cases h
  unfold ZWj ZSd Z2f ZNh Z8c ZZc;rw [ZNg,ZNg,Ze,Ze];have p1:=Z8b x.num.natAbs y.den;have p2:=Z8b y.num.natAbs x.den;have p3:=Z8b x.den y.den;have e1:(x.num*(y.den:Int)).natAbs=x.num.natAbs*y.den:=by rw [Int.natAbs_mul];simp
  have e2:(y.num*(x.den:Int)).natAbs=y.num.natAbs*x.den:=by rw [Int.natAbs_mul];simp
  have p4:bl (x.num*(y.den:Int)+y.num*(x.den:Int)).natAbs≤4398046511104:=by
   have h5:=Int.natAbs_add_le (x.num*(y.den:Int)) (y.num*(x.den:Int));have h6:=Zyf h5;have h7:=Z9k (x.num*(y.den:Int)).natAbs (y.num*(x.den:Int)).natAbs;rw [e1,e2] at h7;rw [e1,e2] at h6;omega
  rw [if_pos ⟨Zqb (by omega),Zqb (by omega)⟩,Ze,if_pos ⟨Zqb (by omega),Zqb (by omega)⟩,Ze,if_pos ⟨by rw [e1];exact Zqb (by omega),by rw [e2];exact Zqb (by omega)⟩,Ze,
   if_pos ⟨Zqb (by omega),Zqb (by omega)⟩,Ze,if_pos ⟨Zqb p4,Zqb (by omega),Nat.mul_ne_zero x.den_nz y.den_nz⟩,Ze,← Rat.add_def']
 ·cases h
theorem ZNp {x y z:Rat} (h:Ztc x y=some z):ZAj x y=some z:=by
 unfold Ztc at h;split at h
 ·rename_i hh;obtain ⟨⟨h1,h2⟩,h3,h4⟩:=hh
  cases h
  unfold ZAj ZSd ZRi Z8c ZZc;rw [ZNg,ZNg];have p1:=Z8b x.num.natAbs y.num.natAbs;have p3:=Z8b x.den y.den;have e1:(x.num*y.num).natAbs=x.num.natAbs*y.num.natAbs:=Int.natAbs_mul ..;rw [if_pos ⟨Zqb (by omega),Zqb (by omega)⟩,Ze,Ze,Ze,if_pos ⟨Zqb (by omega),Zqb (by omega)⟩,Ze,if_pos ⟨by rw [e1];exact Zqb (by omega),Zqb (by omega),Nat.mul_ne_zero x.den_nz y.den_nz⟩,Ze,← Rat.mul_def']
 ·cases h
theorem Zsq {x:Rat} {z:Int} (h:Zuc x=some z):ZEj x=some z:=by
 unfold Zuc at h;unfold ZEj Z4h;rw [Ze,h]
theorem Zgs {x z:Rat} (h:Zrh x=some z):Z7i x=some z:=by
 unfold Zrh at h
 cases h
 unfold Z7i ZKi;rw [Ze];have:=ZGl (-x);have e1:(-x).num = -x.num:=rfl;have e2:(-x).den=x.den:=rfl;rw [e1,e2] at this;rw [this,Ze]
noncomputable def Zjj (x:Rat) (y:Rat):Option (Rat×Int) :=
 bnd (ZPi y) fun b =>
 ifb (b)
 (some (((0:Rat),(3:Int))))
 (bnd (bnd (ZSd ((Zfb y.den))) fun c =>
 bnd (Z2f x.num c) fun d =>
 some d)
 (fun (a:Int) =>
 (bnd (ZUb ((decide (a<0)) != (decide (y.num<0))) a.natAbs) fun e =>
 bnd (ZSd ((Zfb x.den))) fun f =>
 bnd (Z8c f ((y.num).natAbs)) fun g =>
 bnd (ZZc e g) fun h =>
 some ((h,(0:Int))))))
noncomputable def Z5i (n:Int) (d:Int):Option (Rat×Int) :=
 ifb (d==(0:Int))
 (some (((0:Rat),(3:Int))))
 (bnd (ofF n) fun a =>
 bnd (ofF d) fun b =>
 bnd (ZUb ((decide (a<0)) != (decide (b<0))) a.natAbs) fun c =>
 bnd (ZZc c b.natAbs) fun e =>
 some ((e,(0:Int))))
noncomputable def ZLj (x:Rat) (y:Rat):Option (Rat) :=
 bnd (Zrh y) fun a =>
 bnd (ZIb x a) fun b =>
 some b
theorem ZZi (n d:Int):Rat.divInt n d=mkRat (if d<0 then -n else n) d.natAbs:=by
 cases d with
 | ofNat d=>rw [if_neg (by simp)];rfl
 | negSucc d =>
  rw [if_pos (Int.negSucc_lt_zero d)];show Rat.normalize (-n) (d+1) (Nat.succ_ne_zero d)=mkRat (-n) (d+1);rw [Rat.normalize_eq_mkRat]
theorem inv_mk {y:Rat} (h:y≠0):y⁻¹=mkRat (if y.num<0 then -(y.den:Int) else y.den) y.num.natAbs:=by
 rw [Rat.inv_def,ZZi]
theorem Z2l {x y:Rat} (h:y≠0):x / y=mkRat (if y.num<0 then -(x.num*(y.den:Int)) else x.num*(y.den:Int)) (x.den*y.num.natAbs):=by
 rw [Rat.div_def,inv_mk h]
 conv=>lhs;rw [← Rat.mkRat_self x]
 rw [Rat.mkRat_mul_mkRat]
 ·congr 1;split <;> grind
theorem okQ_neg {x:Rat} (h:okQ x):okQ (-x):=by
 unfold okQ at *;have e1:(-x).num = -x.num:=rfl;have e2:(-x).den=x.den:=rfl;rw [e1,e2,Int.natAbs_neg];exact h
theorem ZWq {x y z:Rat} (h:Z8d x y=some z):ZLj x y=some z:=by
 unfold Z8d at h;split at h
 ·rename_i hh;unfold ZLj Zrh ZIb;rw [Ze,if_pos ⟨hh.1,okQ_neg hh.2⟩,Ze,← Rat.sub_eq_add_neg];exact h
 ·cases h
theorem Zfj {y:Rat} (h:y≠0):y.num≠0:=fun e=>h (by rwa [Rat.num_eq_zero] at e)
theorem Zdl (n m:Int):ZUb (decide (n<0) != decide (m<0)) n.natAbs=some (if m<0 then -n else n):=by
 unfold ZUb;by_cases h1:n<0 <;> by_cases h2:m<0 <;> simp [h1,h2] <;> omega
theorem ZQp {x y:Rat} {z:Rat×Int} (h:Zte x y=some z):Zjj x y=some z:=by
 unfold Zte at h;split at h
 ·rename_i hh;obtain ⟨⟨h1,h2⟩,h3,h4⟩:=hh
  cases h
  unfold Zjj ZPi;rw [Ze];by_cases h0:y=0
  ·subst h0;rfl
  ·rw [decide_eq_false h0,ZF,if_neg h0];unfold Z2f ZSd Z8c ZZc;rw [ZNg,ZNg];have p1:=Z8b x.num.natAbs y.den;have p3:=Z8b x.den y.num.natAbs;have e1:(x.num*(y.den:Int)).natAbs=x.num.natAbs*y.den:=by rw [Int.natAbs_mul];simp
   have e2:(if y.num<0 then -(x.num*(y.den:Int)) else x.num*(y.den:Int)).natAbs=x.num.natAbs*y.den:=by
    split
    ·rw [Int.natAbs_neg];exact e1
    ·exact e1
   have hn:=Zfj h0;rw [Ze,if_pos ⟨Zqb (by omega),Zqb (by omega)⟩,Ze,Ze,Zdl,Ze,Ze,if_pos ⟨Zqb (by omega),Zqb (by omega)⟩,Ze,
    if_pos ⟨by rw [e2];exact Zqb (by omega),Zqb (by omega),Nat.mul_ne_zero x.den_nz (by omega)⟩,Ze,← Z2l h0]
 ·cases h
theorem Zip {n d:Int} {z:Rat×Int} (hn:inR .i64 n) (hd:inR .i64 d) (h:Zoi n d=some z):Z5i n d=some z:=by
 unfold Zoi at h
 cases h
 have hn:=Zqc.1 hn;have hd:=Zqc.1 hd;have ok:∀ k:Nat,k<2^64→okN k:=fun k hk=>Zqb (Nat.le_trans (ZSc hk) (by decide));unfold Z5i;by_cases h0:d=0
 ·subst h0;rfl
 ·have e0:(d==0)=false:=by simp [h0]
  rw [e0,ZF,if_neg h0];unfold ofF ZZc;rw [Ze,Ze,Zdl,Ze,if_pos ⟨ok _ (by split <;> omega),ok _ (by omega),by omega⟩,Ze,← ZZi]
noncomputable def Z3j (x:Rat) (y:Rat):Option (Int) :=
 bnd (Z8d x y) fun a =>
 bnd (Zuc a) fun b =>
 some b
noncomputable def ZVj (n:Int):Option ((List UInt8)) :=
 bnd (bnd (Z7 (fun s:(List Int)×Int×Int=>match s with
 | (a,b,e) =>
 (ifb (decide ((0:Int)<b))
 (bnd (chk .i64 (e-(1:Int))) fun c =>
 bnd (rem .u64 b (10:Int)) fun g =>
 bnd (idx a c) fun k =>
 bnd (quo .u64 b (10:Int)) fun h =>
 some (.inl (((a.set (c).toNat (IntKind.u8.wrap (IntKind.u64.wrap ((48:Int)+g)))),h,c))))
 (some (.inr ((a,e)))))) Zga (((List.replicate 20 (0:Int)),n,(20:Int))))
 (fun (p:(List Int)×Int)=>match p with
 | (i,j) =>
 (some ((i,j)))))
 (fun (p:(List Int)×Int)=>match p with
 | (d,f) =>
 (bnd (ZYa d f (d.length:Int)) fun l =>
 some ((Zqe (d.drop ((f).toNat))))))
noncomputable def Zwj (r:(Int×Int)):Option (Rat) :=
 ifb (r.2==(0:Int))
 (bnd (Zvd r.1) fun a =>
 some a)
 (bnd (Zoi r.1 r.2) fun b =>
 some b.1)
theorem ZUr {x y:Rat} {z:Int} (h:ZMd x y=some z):Z3j x y=some z:=by
 unfold ZMd at h;split at h
 ·rename_i hh
  cases h
  unfold Z3j Z8d Zuc;rw [if_pos hh,Ze,Ze]
 ·cases h
theorem ZTq {n:Nat} (h:n<10):UInt8.ofNat (IntKind.u8.wrap (IntKind.u64.wrap (48+((n:Nat):Int)))).toNat=UInt8.ofNat (48+n):=by
 have:n=0∨n=1∨n=2∨n=3∨n=4∨n=5∨n=6∨n=7∨n=8∨n=9:=by omega
 rcases this with rfl | rfl | rfl | rfl | rfl | rfl | rfl | rfl | rfl | rfl <;> rfl
theorem Zxe {n:Nat} (h:n≠0):ZNa n=ZNa (n / 10)++[UInt8.ofNat (48+n%10)]:=by rw [ZNa,dif_neg h]
theorem Z6c:ZNa 0=[]:=by rw [ZNa];rfl
theorem ZXr {n:Int} {z:List UInt8} (hn:inR .u64 n) (h:Zjh n=some z):ZVj n=some z:=by
 unfold Zjh at h
 cases h
 have hn:=Znf.1 hn;obtain ⟨N,rfl⟩:=Int.eq_ofNat_of_zero_le hn.1;unfold ZVj;rw [Zab];refine Znb (fun s:(List Int)×Int×Int=>∃ m k:Nat,s.2.1=(m:Int)∧s.2.2=(k:Int)∧k≤20∧m<10^k∧m<18446744073709551616∧s.1.length=20∧ZNa m++Zqe (s.1.drop k)=ZNa N) (fun s=>s.2.1.toNat)
  (fun r:List Int×Int=>∃ k:Nat,r.2=(k:Int)∧k≤20∧r.1.length=20∧Zqe (r.1.drop k)=ZNa N) ⟨N,20,rfl,rfl,by omega,by omega,by omega,by simp,by simp [Zqe]⟩ (Z1a (by simp;omega)) ?_ ?_
 ·rintro ⟨l,m,k⟩ ⟨m,k,rfl,rfl,hk,hm,hm2,hl,hd⟩;simp only at hm hm2 hl hd ⊢;by_cases h0:m=0
  ·right;subst h0;rw [decide_eq_false (by omega),ZF];rw [Z6c,List.nil_append] at hd;exact ⟨_,rfl,k,rfl,hk,hl,hd⟩
  ·left;rw [decide_eq_true (by omega),ZH];have hk0:k≠0:=by rintro rfl;omega
   obtain ⟨j,rfl⟩:∃ j,k=j+1:=⟨k-1,by omega⟩;have c1:chk .i64 (((j+1:Nat):Int)-1)=some (j:Int):=by rw [show ((j+1:Nat):Int)-1=(j:Int) by omega,Ztb (by omega)]
   have c2:rem .u64 (m:Int) 10=some ((m%10:Nat):Int):=ZRf (q:=10) (by omega);have c3:quo .u64 (m:Int) 10=some ((m / 10:Nat):Int):=Zdh (q:=10) (by omega) hm2;rw [c1,Ze,c2,Ze,Z9 (by omega),Ze,c3,Ze];have hm10:m / 10<10^j:=by
    rw [Nat.pow_succ] at hm;omega
   refine ⟨_,rfl,⟨m / 10,j,rfl,rfl,by omega,hm10,by omega,by simp [hl],?_⟩,by simp only [Int.toNat_natCast];omega⟩;simp only [Int.toNat_natCast];have hj:j<l.length:=by omega
   rw [← hd,Zxe h0,List.append_assoc];congr 1;have e:(l.set j (IntKind.u8.wrap (IntKind.u64.wrap (48+((m%10:Nat):Int))))).drop j=IntKind.u8.wrap (IntKind.u64.wrap (48+((m%10:Nat):Int))) :: l.drop (j+1):=by
    rw [List.drop_eq_getElem_cons (by simpa using hj),List.getElem_set_self,List.drop_set_of_lt (by omega)]
   rw [e];show UInt8.ofNat _ :: Zqe _=_;rw [ZTq (Nat.mod_lt _ (by omega))];rfl
 ·rintro ⟨l,k⟩ ⟨k,rfl,hk,hl,hd⟩;simp only at hl hd ⊢;rw [Ze];simp only;have:ZYa l (k:Int) (l.length:Int)=some (l.drop k):=by
   unfold ZYa;rw [if_pos ⟨by omega,by omega,by omega⟩];simp
  rw [this,Ze,Int.toNat_natCast,hd,Int.toNat_natCast]
theorem ZBs {r:Int×Int} {z:Rat} (h:ZTc r=some z):Zwj r=some z:=by
 unfold ZTc at h
 cases h
 unfold Zwj ZLb Zvd Zoi;by_cases h0:r.2=0
 ·rw [if_pos h0,h0];rfl
 ·have:(r.2==0)=false:=by simp [h0]
  rw [this,ZF,Ze,if_neg h0,if_neg h0]
theorem ZDp (x:Int) (d:Nat):(x / (d:Int)).natAbs≤x.natAbs:=Int.natAbs_ediv_le_natAbs x d
theorem Z4j (n:Int) (d:Nat):bl (mkRat n d).num.natAbs≤bl n.natAbs∧bl (mkRat n d).den≤bl d∨d=0:=by
 by_cases hd:d=0
 ·exact .inr hd
 ·left;rw [Rat.num_mkRat,Rat.den_mkRat];constructor
  ·refine Zyf ?_;split
   ·simp
   ·exact ZDp n _
  ·refine Zyf ?_;split
   ·omega
   ·exact Nat.div_le_self _ _
theorem Ziq {x y:Rat}:bl (x / y).num.natAbs≤bl x.num.natAbs+bl y.den∧bl (x / y).den≤bl x.den+bl y.num.natAbs+1:=by
 by_cases h0:y=0
 ·subst h0;have:x / 0=0:=by rw [Rat.div_def,Rat.inv_zero,Rat.mul_zero]
  rw [this];have h1:bl (0:Rat).den=1:=by decide
  have h2:bl (0:Rat).num.natAbs=0:=by decide
  rw [h1,h2];omega
 ·rw [Z2l h0];have hd:x.den*y.num.natAbs≠0:=Nat.mul_ne_zero x.den_nz (by have:=Zfj h0;omega);rcases Z4j (if y.num<0 then -(x.num*(y.den:Int)) else x.num*(y.den:Int)) (x.den*y.num.natAbs) with ⟨h1,h2⟩ | h1
  ·have e:(if y.num<0 then -(x.num*(y.den:Int)) else x.num*(y.den:Int)).natAbs=x.num.natAbs*y.den:=by
    split
    ·rw [Int.natAbs_neg,Int.natAbs_mul];simp
    ·rw [Int.natAbs_mul];simp
   rw [e] at h1;have:=Z8b x.num.natAbs y.den;have:=Z8b x.den y.num.natAbs;omega
  ·exact absurd h1 hd
theorem Zln (x y:Rat):bl (x+y).num.natAbs≤max (bl x.num.natAbs+bl y.den) (bl y.num.natAbs+bl x.den)+1∧bl (x+y).den≤bl x.den+bl y.den:=by
 rw [Rat.add_def'];rcases Z4j (x.num*(y.den:Int)+y.num*(x.den:Int)) (x.den*y.den) with ⟨h1,h2⟩ | h1
 ·have e1:(x.num*(y.den:Int)).natAbs=x.num.natAbs*y.den:=by rw [Int.natAbs_mul];simp
  have e2:(y.num*(x.den:Int)).natAbs=y.num.natAbs*x.den:=by rw [Int.natAbs_mul];simp
  have h5:=Int.natAbs_add_le (x.num*(y.den:Int)) (y.num*(x.den:Int));have h6:=Zyf h5;have h7:=Z9k (x.num*(y.den:Int)).natAbs (y.num*(x.den:Int)).natAbs;rw [e1,e2] at h7;rw [e1,e2] at h6;have:=Z8b x.num.natAbs y.den;have:=Z8b y.num.natAbs x.den;have:=Z8b x.den y.den;omega
 ·exact absurd h1 (Nat.mul_ne_zero x.den_nz y.den_nz)
theorem Z8j (x:Rat):bl (-x).num.natAbs=bl x.num.natAbs∧(-x).den=x.den:=by
 have e1:(-x).num = -x.num:=rfl;exact ⟨by rw [e1,Int.natAbs_neg],rfl⟩
theorem ZPq (x y:Rat):bl (x-y).num.natAbs≤max (bl x.num.natAbs+bl y.den) (bl y.num.natAbs+bl x.den)+1∧bl (x-y).den≤bl x.den+bl y.den:=by
 rw [Rat.sub_eq_add_neg];have:=Zln x (-y);rw [(Z8j y).1,(Z8j y).2] at this;exact this
theorem ZZs (x y:Rat):bl (x*y).num.natAbs≤bl x.num.natAbs+bl y.num.natAbs∧bl (x*y).den≤bl x.den+bl y.den:=by
 rw [Rat.mul_def'];rcases Z4j (x.num*y.num) (x.den*y.den) with ⟨h1,h2⟩ | h1
 ·have e1:(x.num*y.num).natAbs=x.num.natAbs*y.num.natAbs:=Int.natAbs_mul ..;rw [e1] at h1;have:=Z8b x.num.natAbs y.num.natAbs;have:=Z8b x.den y.den;omega
 ·exact absurd h1 (Nat.mul_ne_zero x.den_nz y.den_nz)
theorem Zfp (n:Int):bl (n:Rat).num.natAbs=bl n.natAbs∧bl (n:Rat).den=1:=⟨by rw [Rat.num_intCast],by rw [Rat.den_intCast];decide⟩
end Go.Eng
namespace Go.Eng
open Go.RowKit
theorem Z8l {v:Zc} {c:List Value} {a:List Int} (h:(Zz (Zd .u64)).rel v c a):Dig 18446744073709551616 a∧a.length≤9223372036854775807:=by
 have hl:=ZRl h;rw [Zqc] at hl;refine ⟨?_,by omega⟩;obtain ⟨q,cap,rfl,h1,h2,h3⟩:=h;rcases h3 with rfl | ⟨b,off,cc,T,fr,rfl,hb,hr⟩
 ·exact Dig.nil
 ·intro x hx;obtain ⟨i,hi⟩:=List.getElem?_of_mem hx;have hg:=ZXa hr hi;obtain ⟨_,h4⟩:=hg;have:=Znf.1 h4;omega
theorem ZKm {v:Zc} {c:List Value} {n:Nat} (h:ZK.rel v c n):(Zm 18446744073709551616 n).length≤9223372036854775807:=(Z8l (a:=Zm 18446744073709551616 n) h).2
theorem ZTk {v:Zc}:∀ {cs:List Value} {u:List Int},Rep.rels (Zd .u64) v cs u→Dig 18446744073709551616 u
 | _,[],_=>Dig.nil
 | _,x :: u,h=>by
  obtain ⟨c1,c2,rfl,⟨_,h1⟩,h2⟩:=h
  have:=Znf.1 h1
  exact Dig.cons.2 ⟨by omega,ZTk h2⟩
noncomputable def Zcj (a:(List Int)):Option ((List Int)) :=
 bnd (bnd (Z7 (fun s:Int=>match s with
 | b =>
 (bnd (ifb (decide ((0:Int)<b))
 (bnd (chk .i64 (b-(1:Int))) fun c =>
 bnd (idx a c) fun d =>
 some (d==(0:Int)))
 (some false))
 (fun (e:Bool) =>
 (ifb (e)
 (bnd (chk .i64 (b-(1:Int))) fun f =>
 some (.inl f))
 (some (.inr b)))))) Zga ((a.length:Int)))
 (fun (g:Int) =>
 (some g)))
 (fun (h:Int) =>
 (bnd (ZYa a (0:Int) h) fun i =>
 some i))
noncomputable def Zak (a:Nat) (b:Nat):Option (Int) :=
 ifb (decide ((((Zm 4294967296 a)).length:Int)<(((Zm 4294967296 b)).length:Int)))
 (some (-1:Int))
 (ifb (decide ((((Zm 4294967296 b)).length:Int)<(((Zm 4294967296 a)).length:Int)))
 (some (1:Int))
 (bnd (chk .i64 (((((Zm 4294967296 a)).length:Int))-(1:Int))) fun d =>
 bnd (bnd (Z7 (fun s:Int=>match s with
 | c =>
 (ifb (decide ((0:Int)≤c))
 (bnd (idx ((Zm 4294967296 a)) c) fun e =>
 bnd (idx ((Zm 4294967296 b)) c) fun f =>
 ifb (decide (e<f))
 (some (.inr ((.inl (-1:Int)))))
 (bnd (idx ((Zm 4294967296 a)) c) fun g =>
 bnd (idx ((Zm 4294967296 b)) c) fun h =>
 ifb (decide (h<g))
 (some (.inr ((.inl (1:Int)))))
 (bnd (chk .i64 (c-(1:Int))) fun i =>
 some (.inl i))))
 (some (.inr ((.inr (()))))))) Zga d)
 (fun (p:(Int) ⊕ (Unit))=>match p with
 | .inl j =>
 (some ((.inr j)))
 | .inr (()) =>
 (some ((.inl (()))))))
 (fun (p:(Unit) ⊕ (Int))=>match p with
 | .inl (()) =>
 (some (0:Int))
 | .inr k =>
 (some k))))
noncomputable def Zdi (a:Nat):Option (Int) :=
 ifb (((((Zm 4294967296 a)).length:Int))==(0:Int))
 (some (0:Int))
 (bnd (chk .i64 (((((Zm 4294967296 a)).length:Int))-(1:Int))) fun d =>
 bnd (chk .i64 ((32:Int)*d)) fun e =>
 bnd (chk .i64 (((((Zm 4294967296 a)).length:Int))-(1:Int))) fun f =>
 bnd (idx ((Zm 4294967296 a)) f) fun g =>
 bnd (bnd (Z7 (fun s:Int×Int=>match s with
 | (b,c) =>
 (ifb (decide ((0:Int)<c))
 (bnd (chk .i64 (b+(1:Int))) fun h =>
 bnd (ZUa .u32 c (1:Int)) fun i =>
 some (.inl ((h,i))))
 (some (.inr b)))) Zga ((e,g)))
 (fun (j:Int) =>
 (some j)))
 (fun (k:Int) =>
 (some k)))
noncomputable def Zok (x:Rat):Option (Nat) :=
 ifb (((((Zm 4294967296 x.den)).length:Int))==(0:Int))
 (bnd (Znd ([(1:Int)])) fun a =>
 some a)
 (some x.den)
noncomputable def ZXi (x:Rat):Option (Bool) :=
 some (((((Zm 4294967296 x.num.natAbs)).length:Int))==(0:Int))
end Go.Eng
namespace Go.Eng
open Go.RowKit
theorem Zxl {v:Zc} {c:List Value} {a:List Int} (h:(Zz (Zd .u32)).rel v c a):Dig 4294967296 a∧a.length≤9223372036854775807:=by
 have hl:=ZRl h;rw [Zqc] at hl;refine ⟨?_,by omega⟩;obtain ⟨q,cap,rfl,h1,h2,h3⟩:=h;rcases h3 with rfl | ⟨b,off,cc,T,fr,rfl,hb,hr⟩
 ·exact Dig.nil
 ·intro x hx;obtain ⟨i,hi⟩:=List.getElem?_of_mem hx;have hg:=ZXa hr hi;obtain ⟨_,h4⟩:=hg;have h5:0≤x∧x≤4294967295:=h4;omega
theorem Z9n {v:Zc} {c:List Value} {n:Nat} (h:ZP.rel v c n):(Zm 4294967296 n).length≤9223372036854775807:=(Zxl (a:=Zm 4294967296 n) h).2
theorem rcut_eq {a:List Int} (ha:Dig 4294967296 a) (hl:a.length≤9223372036854775807):Zcj a=some (Zm 4294967296 (val 4294967296 a)):=by
 unfold Zcj;rw [Zab];refine Znb (fun s:Int=>∃ k:Nat,s=(k:Int)∧k≤a.length∧val 4294967296 (a.take k)=val 4294967296 a) (fun s=>s.toNat)
  (fun r:Int=>∃ k:Nat,r=(k:Int)∧k≤a.length∧val 4294967296 (a.take k)=val 4294967296 a∧Cut (a.take k)) ⟨a.length,rfl,by omega,by rw [List.take_length]⟩ (Z1a (by omega)) ?_ ?_
 ·rintro s ⟨k,rfl,hk,hv⟩;simp only;by_cases h0:k=0
  ·right;subst h0;rw [show decide ((0:Int)<((0:Nat):Int))=false from rfl,ZF,Ze,ZF];exact ⟨_,rfl,0,rfl,by omega,hv,by intro x hx;simp at hx⟩
  ·obtain ⟨j,rfl⟩:∃ j,k=j+1:=⟨k-1,by omega⟩;have c1:chk .i64 (((j+1:Nat):Int)-1)=some (j:Int):=by rw [show ((j+1:Nat):Int)-1=(j:Int) by omega,Ztb (by omega)]
   rw [decide_eq_true (by omega),ZH,c1,Ze,Z9 (by omega),Ze,Ze];by_cases hz:a[j]'(by omega)=0
   ·left;rw [show (a[j]'(by omega)==0)=true by simp [hz],ZH,Ze];refine ⟨_,rfl,⟨j,rfl,by omega,?_⟩,by simp⟩;rw [← hv,Zfc (by omega),hz];simp
   ·right;rw [show (a[j]'(by omega)==0)=false by simp [hz],ZF];refine ⟨_,rfl,j+1,rfl,hk,hv,?_⟩;intro x hx;rw [List.getLast?_eq_getElem?,List.length_take,Nat.min_eq_left (by omega),Nat.add_sub_cancel,List.getElem?_take_of_lt (by omega),List.getElem?_eq_getElem (by omega)] at hx
    cases hx;exact hz
 ·rintro r ⟨k,rfl,hk,hv,hc⟩;rw [Ze];have e:ZYa a 0 (k:Int)=some (a.take k):=by
   unfold ZYa;rw [if_pos ⟨by omega,by omega,by omega⟩];simp
  rw [e,Ze,← hv,Zdg (by decide) (ha.take k) hc]
theorem Zwq {n m:Nat} (h1:(Zm 4294967296 n).length≤9223372036854775807) (h2:(Zm 4294967296 m).length≤9223372036854775807):Zak n m=Zge n m:=by
 unfold Zak Zge Zib;by_cases hlt:(Zm 4294967296 n).length<(Zm 4294967296 m).length
 ·have:=Zjk (by decide) hlt;rw [decide_eq_true (by omega),ZH,if_pos this]
 ·by_cases hgt:(Zm 4294967296 m).length<(Zm 4294967296 n).length
  ·have:=Zjk (by decide) hgt;rw [decide_eq_false (by omega),ZF,decide_eq_true (by omega),ZH,if_neg (by omega),if_pos this]
  ·have hl:(Zm 4294967296 n).length=(Zm 4294967296 m).length:=by omega
   rw [decide_eq_false (by omega),ZF,decide_eq_false (by omega),ZF,Zka (by omega) (by omega),Ze];have hd:=Zxb (B:=4294967296) (by decide) n;have hd':=Zxb (B:=4294967296) (by decide) m;have hvn:=Zgb (B:=4294967296) (by decide) n;have hvm:=Zgb (B:=4294967296) (by decide) m;generalize Zm 4294967296 n=a at *;generalize Zm 4294967296 m=b at *;rw [Zab,ZGj (r:=if n<m then .inl (-1) else if m<n then .inl 1 else .inr ()) (fun s:Int=>-1≤s∧s<a.length∧a.drop (s+1).toNat=b.drop (s+1).toNat) (fun s=>(s+1).toNat) ⟨by omega,by omega,?_⟩ (Z1a (by omega)) ?_]
   ·rw [Ze];by_cases hlt:n<m
    ·simp only [if_pos hlt];rfl
    ·by_cases hgt:m<n
     ·simp only [if_neg hlt,if_pos hgt];rfl
     ·simp only [if_neg hlt,if_neg hgt];rfl
   ·rw [List.drop_eq_nil_of_le (by omega),List.drop_eq_nil_of_le (by omega)]
   ·rintro s ⟨h3,h4,h5⟩;by_cases hs:0≤s
    ·obtain ⟨i,rfl⟩:=Int.eq_ofNat_of_zero_le hs;have hi:i<a.length:=by omega
     have hi':i<b.length:=by omega
     have e1:decide ((0:Int)≤(i:Int))=true:=decide_eq_true hs;simp only [e1,ZH,Z9 hi,Z9 hi',Ze];have ei:((i:Int)+1).toNat=i+1:=by omega
     rw [ei] at h5;by_cases hlt:a[i]<b[i]
     ·right;have:=Ztk hd hd' hl hi h5 hlt;rw [decide_eq_true hlt,ZH,if_pos (by omega)]
     ·by_cases hgt:b[i]<a[i]
      ·right;have:=Ztk hd' hd hl.symm hi' h5.symm hgt;rw [decide_eq_false hlt,ZF,decide_eq_true hgt,ZH,if_neg (by omega),if_pos (by omega)]
      ·left;rw [decide_eq_false hlt,ZF,decide_eq_false hgt,ZF,Zka (by omega) (by omega),Ze];refine ⟨_,rfl,⟨by omega,by omega,?_⟩,by simp⟩;have e2:((i:Int)-1+1).toNat=i:=by omega
       rw [e2,List.drop_eq_getElem_cons hi,List.drop_eq_getElem_cons hi',h5];congr 1;omega
    ·right;have:s = -1:=by omega
     subst this;simp at h5;have:n=m:=by rw [← hvn,← hvm,h5]
     subst this;simp [ifb]
theorem Zcp {B n k:Nat} (hB:2≤B) (h0:n≠0) (hk:(Zm B n).length=k+1):(Zm B n)[k]? = some ((n / B^k:Nat):Int):=by
 induction k generalizing n with
 | zero =>
  rw [ZGd hB h0] at hk ⊢;have h2:n / B=0:=by
   rw [List.length_cons] at hk;exact (ZWg hB).1 (List.eq_nil_of_length_eq_zero (by omega))
  have:=Nat.mod_add_div n B;rw [h2] at this;simp at this;simp [this]
 | succ k ih =>
  rw [ZGd hB h0] at hk ⊢;rw [List.length_cons] at hk;have h2:n / B≠0:=by
   intro h2;rw [h2,Zcb] at hk;simp at hk
  rw [List.getElem?_cons_succ,ih h2 (by omega),Nat.div_div_eq_div_mul,Nat.pow_succ,Nat.mul_comm B]
theorem shr_u32 {x k:Nat} (hk:k≤32):ZUa .u32 (x:Int) (k:Int)=some ((x / 2^k:Nat):Int):=by
 unfold ZUa;rw [if_neg (by omega)];have:min ((k:Int).toNat) IntKind.u32.bits=k:=by simp [IntKind.bits];omega
 rw [this,Int.fdiv_eq_ediv_of_nonneg _ (Int.pow_nonneg (by omega))];simp
theorem ZPk {n:Nat} (h:n≠0):bl n=bl (n / 2)+1:=by
 by_cases h1:n=1
 ·subst h1;decide
 ·have:=Zyh (n:=n) (k:=1) (by omega)
  simpa using this
theorem ZZq {n:Nat} (hn:Z2a n):Zdi n=some (bl n:Int):=by
 unfold Zdi;by_cases h0:n=0
 ·subst h0;rw [Zcb];rfl
 ·obtain ⟨k,hk⟩:∃ k,(Zm 4294967296 n).length=k+1:=by
   have:=List.length_pos_iff.2 ((ZId (n:=n) (B:=4294967296) (by decide)).2 h0);exact ⟨(Zm 4294967296 n).length-1,by omega⟩
  have htop:=Zcp (by decide) h0 hk;unfold Z2a at hn;rw [hk] at hn ⊢;have e0:((((k+1:Nat):Int))==(0:Int))=false:=by simp;omega
  have c1:chk .i64 (((k+1:Nat):Int)-1)=some (k:Int):=by rw [show ((k+1:Nat):Int)-1=(k:Int) by omega,Ztb (by omega)]
  have c2:chk .i64 (32*(k:Int))=some ((32*k:Nat):Int):=by rw [show (32*(k:Int))=((32*k:Nat):Int) by omega,Ztb (by omega)]
  have c3:idx (Zm 4294967296 n) (k:Int)=some ((n / 4294967296^k:Nat):Int):=by
   simp only [idx,Int.toNat_natCast];rw [if_pos (by omega)];exact htop
  rw [e0,ZF,c1,Ze,c2,Ze,Ze,c3,Ze,Zab];have hB:n=n:=rfl;have hge:4294967296^k≤n:=by
   have:=Zli (B:=4294967296) (by decide) h0;rw [hk] at this;simpa using this
  have hlt:n / 4294967296^k<4294967296:=by
   have:=Zwd (B:=4294967296) (by decide) n;rw [hk,Nat.pow_succ] at this;exact Nat.div_lt_of_lt_mul this
  have h2:(4294967296:Nat)^k=2^(32*k):=by rw [Nat.pow_mul]
  have hbl:bl n=bl (n / 4294967296^k)+32*k:=by rw [h2];exact Zyh (by rw [← h2];exact hge)
  rw [hbl];generalize n / 4294967296^k=t at *;refine Znb (fun s:Int×Int=>∃ c t':Nat,s.1=(c:Int)∧s.2=(t':Int)∧t'<4294967296∧bl t'+c=bl t+32*k∧c≤4398046511104+bl t-bl t'∧bl t'≤bl t) (fun s=>s.2.toNat)
   (fun r:Int=>r=((bl t+32*k:Nat):Int)) ⟨32*k,t,rfl,rfl,hlt,by omega,by omega,by omega⟩ (Z1a (by simp;omega)) ?_ ?_
  ·rintro ⟨c,t'⟩ ⟨c,t',rfl,rfl,h3,h4,h5,h6⟩;simp only;by_cases ht:t'=0
   ·right;subst ht;rw [show decide ((0:Int)<((0:Nat):Int))=false from rfl,ZF];exact ⟨_,rfl,by rw [← h4];simp [bl]⟩
   ·left;have hb:=ZPk ht;have hbt:bl t≤32:=ZSc (by omega);have c4:chk .i64 ((c:Int)+1)=some ((c+1:Nat):Int):=by rw [show (c:Int)+1=((c+1:Nat):Int) by omega,Ztb (by omega)]
    have c5:=shr_u32 (x:=t') (k:=1) (by omega);rw [decide_eq_true (by omega),ZH,c4,Ze];have c6:ZUa .u32 (t':Int) 1=some ((t' / 2:Nat):Int):=by simpa using c5
    rw [c6,Ze];exact ⟨_,rfl,⟨c+1,t' / 2,rfl,rfl,by omega,by omega,by omega,by omega⟩,by simp;omega⟩
  ·rintro r rfl;rw [Ze]
theorem Zis {n:Nat} {z:Int} (h:ZXg n=some z):Zdi n=some z:=by
 unfold ZXg at h;split at h
 ·rename_i hh;rw [ZZq hh,h]
 ·cases h
theorem Zkl:Znd [(1:Int)]=some 1:=by
 have:=ZYm 1
 rwa [Z9j (by omega) (by decide)] at this
theorem Zxk {n:Nat}:(((Zm 4294967296 n).length:Int)==0)=decide (n=0):=by
 by_cases h:n=0
 ·subst h;rw [Zcb];rfl
 ·have:=List.length_pos_iff.2 ((ZId (n:=n) (B:=4294967296) (by decide)).2 h);rw [decide_eq_false h];exact beq_false_of_ne (by omega)
theorem Zlm {n:Nat}:decide ((0:Int)<((Zm 4294967296 n).length:Int))=decide (n≠0):=by
 by_cases h:n=0
 ·subst h;rw [Zcb];rfl
 ·have:=List.length_pos_iff.2 ((ZId (n:=n) (B:=4294967296) (by decide)).2 h);rw [decide_eq_true h,decide_eq_true (by omega)]
theorem Z9r {x:Rat} {z:Nat} (h:Z4c x=some z):Zok x=some z:=by
 unfold Z4c at h;unfold Zok;rw [Zxk,decide_eq_false x.den_nz,ZF,h]
theorem Z4r {x:Rat} {z:Bool} (h:ZJe x=some z):ZXi x=some z:=by
 unfold ZJe at h;unfold ZXi;rw [Zxk,← h];congr 1;apply decide_eq_decide.2;rw [← Rat.num_eq_zero];omega
noncomputable def ZIj (n:Int):Option (Nat) :=
 bnd (ZUa .u64 n (32:Int)) fun a =>
 bnd (Znc ([IntKind.u32.wrap n,IntKind.u32.wrap a])) fun b =>
 some b
noncomputable def ZCh (a:Nat) (b:Nat):Option (Nat) :=
 bnd (bnd (Z7 (fun s:(List Int)×Int×Int=>match s with
 | (d,h,c) =>
 (ifb (decide (c<(((Zm 4294967296 a)).length:Int)))
 (bnd (idx ((Zm 4294967296 a)) c) fun i =>
 bnd (chk .i64 ((IntKind.i64.wrap i)-h)) fun f =>
 bnd (ifb (decide (c<(((Zm 4294967296 b)).length:Int)))
 (bnd (idx ((Zm 4294967296 b)) c) fun j =>
 bnd (chk .i64 (f-(IntKind.i64.wrap j))) fun k =>
 some k)
 (some f))
 (fun (e:Int) =>
 (bnd (ifb (decide (e<(0:Int)))
 (bnd (chk .i64 (e+(4294967296:Int))) fun l =>
 some (((1:Int),l)))
 (some (((0:Int),e))))
 (fun (p:Int×Int)=>match p with
 | (m,g) =>
 (bnd (Z4a 4 (d++[IntKind.u32.wrap g])) fun t =>
 bnd (chk .i64 (c+(1:Int))) fun n =>
 some (.inl (((d++[IntKind.u32.wrap g]),m,n))))))))
 (some (.inr d)))) Zga ((([]:(List Int)),(0:Int),(0:Int))))
 (fun (o:(List Int)) =>
 (some o)))
 (fun (q:(List Int)) =>
 (bnd (Znc q) fun r =>
 some r))
noncomputable def Zni (a:Nat) (b:Nat):Option (Nat) :=
 bnd (chk .i64 (((((Zm 4294967296 a)).length:Int))+((((Zm 4294967296 b)).length:Int)))) fun f =>
 bnd (mk 4 f f) fun A =>
 bnd (bnd (Z7 (fun s:(List Int)×Int=>match s with
 | (h,c) =>
 (ifb (decide (c<(((Zm 4294967296 a)).length:Int)))
 (bnd (bnd (Z7 (fun s:(List Int)×Int×Int=>match s with
 | (e,g,d) =>
 (ifb (decide (d<(((Zm 4294967296 b)).length:Int)))
 (bnd (idx ((Zm 4294967296 a)) c) fun i =>
 bnd (idx ((Zm 4294967296 b)) d) fun j =>
 bnd (chk .i64 (c+d)) fun o =>
 bnd (idx e o) fun k =>
 bnd (chk .i64 (c+d)) fun l =>
 bnd (idx e l) fun B =>
 bnd (ZUa .u64 (IntKind.u64.wrap ((IntKind.u64.wrap (g+(IntKind.u64.wrap ((IntKind.u64.wrap i)*(IntKind.u64.wrap j)))))+(IntKind.u64.wrap k))) (32:Int)) fun q =>
 bnd (chk .i64 (d+(1:Int))) fun r =>
 some (.inl (((e.set (l).toNat (IntKind.u32.wrap (IntKind.u64.wrap ((IntKind.u64.wrap (g+(IntKind.u64.wrap ((IntKind.u64.wrap i)*(IntKind.u64.wrap j)))))+(IntKind.u64.wrap k))))),q,r))))
 (some (.inr ((e,g)))))) Zga ((h,(0:Int),(0:Int))))
 (fun (p:(List Int)×Int)=>match p with
 | (t,u) =>
 (some ((t,u)))))
 (fun (p:(List Int)×Int)=>match p with
 | (m,v) =>
 (bnd (chk .i64 (c+((((Zm 4294967296 b)).length:Int)))) fun n =>
 bnd (idx m n) fun C =>
 bnd (chk .i64 (c+(1:Int))) fun w =>
 some (.inl (((m.set (n).toNat (IntKind.u32.wrap v)),w))))))
 (some (.inr h)))) Zga (((List.replicate (f).toNat (0:Int)),(0:Int))))
 (fun (x:(List Int)) =>
 (some x)))
 (fun (y:(List Int)) =>
 (bnd (Znc y) fun z =>
 some z))
noncomputable def ZAi (a:Nat) (n:Int):Option (Nat) :=
 ifb (((((Zm 4294967296 a)).length:Int))==(0:Int))
 (some ((0:Nat)))
 (bnd (quo .i64 n (32:Int)) fun c =>
 bnd (mk 4 c c) fun r =>
 bnd (bnd (Z7 (fun s:(List Int)×Int×Int=>match s with
 | (d,b,e) =>
 (ifb (decide (e<(((Zm 4294967296 a)).length:Int)))
 (bnd (idx ((Zm 4294967296 a)) e) fun i =>
 bnd (rem .i64 n (32:Int)) fun j =>
 bnd (Zic .u64 (IntKind.u64.wrap i) (IntKind.u64.wrap j)) fun f =>
 bnd (Z4a 4 (d++[IntKind.u32.wrap (orI .u64 f b)])) fun t =>
 bnd (ZUa .u64 (orI .u64 f b) (32:Int)) fun k =>
 bnd (chk .i64 (e+(1:Int))) fun l =>
 some (.inl (((d++[IntKind.u32.wrap (orI .u64 f b)]),k,l))))
 (some (.inr ((d,b)))))) Zga (((List.replicate (c).toNat (0:Int)),(0:Int),(0:Int))))
 (fun (p:(List Int)×Int)=>match p with
 | (m,o) =>
 (some ((m,o)))))
 (fun (p:(List Int)×Int)=>match p with
 | (g,h) =>
 (bnd (Z4a 4 (g++[IntKind.u32.wrap h])) fun u =>
 bnd (Znc ((g++[IntKind.u32.wrap h]))) fun q =>
 some q)))
noncomputable def ZCi (a:Nat) (n:Int):Option (Nat) :=
 bnd (quo .i64 n (32:Int)) fun f =>
 bnd (bnd (Z7 (fun s:(List Int)×Int=>match s with
 | (c,b) =>
 (ifb (decide (b<(((Zm 4294967296 a)).length:Int)))
 (bnd (idx ((Zm 4294967296 a)) b) fun d =>
 bnd (chk .i64 (b+(1:Int))) fun g =>
 bnd (ifb (decide (g<(((Zm 4294967296 a)).length:Int)))
 (bnd (chk .i64 (b+(1:Int))) fun h =>
 bnd (idx ((Zm 4294967296 a)) h) fun i =>
 bnd (Zic .u64 (IntKind.u64.wrap i) (32:Int)) fun j =>
 some (orI .u64 (IntKind.u64.wrap d) j))
 (some (IntKind.u64.wrap d)))
 (fun (k:Int) =>
 (bnd (rem .i64 n (32:Int)) fun l =>
 bnd (ZUa .u64 k (IntKind.u64.wrap l)) fun e =>
 bnd (Z4a 4 (c++[IntKind.u32.wrap e])) fun r =>
 bnd (chk .i64 (b+(1:Int))) fun m =>
 some (.inl (((c++[IntKind.u32.wrap e]),m))))))
 (some (.inr c)))) Zga ((([]:(List Int)),f)))
 (fun (o:(List Int)) =>
 (some o)))
 (fun (p:(List Int)) =>
 (bnd (Znc p) fun q =>
 some q))
noncomputable def Zmi (a:Nat) (b:Int):Option (Nat×Int) :=
 bnd (mk 4 ((((Zm 4294967296 a)).length:Int)) ((((Zm 4294967296 a)).length:Int))) fun r =>
 bnd (chk .i64 (((((Zm 4294967296 a)).length:Int))-(1:Int))) fun h =>
 bnd (bnd (Z7 (fun s:(List Int)×Int×Int=>match s with
 | (d,e,c) =>
 (ifb (decide ((0:Int)≤c))
 (bnd (Zic .u64 e (32:Int)) fun f =>
 bnd (idx ((Zm 4294967296 a)) c) fun g =>
 bnd (quo .u64 (orI .u64 f (IntKind.u64.wrap g)) (IntKind.u64.wrap b)) fun i =>
 bnd (idx d c) fun t =>
 bnd (rem .u64 (orI .u64 f (IntKind.u64.wrap g)) (IntKind.u64.wrap b)) fun j =>
 bnd (chk .i64 (c-(1:Int))) fun k =>
 some (.inl (((d.set (c).toNat (IntKind.u32.wrap i)),j,k))))
 (some (.inr ((d,e)))))) Zga (((List.replicate ((((Zm 4294967296 a)).length:Int)).toNat (0:Int)),(0:Int),h)))
 (fun (p:(List Int)×Int)=>match p with
 | (l,m) =>
 (some ((l,m)))))
 (fun (p:(List Int)×Int)=>match p with
 | (n,o) =>
 (bnd (Znc n) fun q =>
 some ((q,IntKind.u32.wrap o))))
end Go.Eng
namespace Go.Eng
open Go.RowKit
theorem wrap_u32 (z:Int):IntKind.u32.wrap z=z%4294967296:=by
 simp [IntKind.wrap,IntKind.signed,IntKind.bits]
theorem Zgc {n:Nat} (h:n<18446744073709551616):IntKind.u64.wrap (n:Int)=(n:Int):=by rw [wrap_u64];omega
theorem ZVm {n:Nat} (h:n≤9223372036854775807):IntKind.i64.wrap (n:Int)=(n:Int):=Zxg (Zqc.2 ⟨by omega,by omega⟩)
theorem ZHq {n:Int} {z:Nat} (hn:inR .u64 n) (h:Zde n=some z):ZIj n=some z:=by
 unfold Zde at h;have hn:=Znf.1 hn;obtain ⟨N,rfl⟩:=Int.eq_ofNat_of_zero_le hn.1;unfold ZIj Znc;have c1:ZUa .u64 (N:Int) 32=some ((N / 4294967296:Nat):Int):=by
  have:=Zme (x:=N) (k:=32) (by omega);exact this
 rw [c1,Ze,Ze,← h,wrap_u32,wrap_u32];simp only [val];congr 1;omega
theorem ZXe {α:Type} {b:Nat} {l:List α} (h:l.length*b≤140737488355328):Z4a b l=some ():=by unfold Z4a;rw [if_pos h]
theorem Zfh {B:Nat} (l:List Int) (x:Int):val B (l++[x])=val B l+B^l.length*x.toNat:=by rw [ZTd];simp [val]
theorem Dig.snoc {B:Nat} {l:List Int} (h:Dig B l) {x:Int} (hx:0≤x∧x<B):Dig B (l++[x]):=Dig.append.2 ⟨h,Dig.cons.2 ⟨hx,Dig.nil⟩⟩
theorem Zle {B:Nat} {l:List Int} (h:Dig B l) {i:Nat} (hi:i<l.length):∃ x:Nat,l[i]=(x:Int)∧x<B:=by
 obtain ⟨X,hX⟩:=Int.eq_ofNat_of_zero_le (h.get hi).1;have:=(h.get hi).2;exact ⟨X,hX,by omega⟩
theorem Znl {σ ρ τ γ:Type} {body:σ→Option (σ ⊕ ρ)} {f:ρ→Option (τ ⊕ γ)} {n:Nat} {s:σ} {J:τ→Prop} (I:σ→Prop) (μ:σ→Nat) (Q:ρ→Prop) (hs:I s) (hn:μ s<n)
  (h:∀ s,I s→(∃ s',body s=some (.inl s')∧I s'∧μ s'<μ s) ∨ ∃ r,body s=some (.inr r)∧Q r) (hf:∀ r,Q r→∃ t,f r=some (.inl t)∧J t):∃ t,bnd (Z7 body n s) f=some (.inl t)∧J t:=by
 obtain ⟨r,e,hq⟩:=Z0j I μ Q h n s hs hn;rw [e];exact hf r hq
theorem rdif_eq {n m:Nat} (hn:Z2a n) (hm:m≤n):ZCh n m=some (n-m):=by
 unfold ZCh;have hl:=Z7d (B:=4294967296) (by decide) hm;have hdx:=Zxb (B:=4294967296) (by decide) n;have hdy:=Zxb (B:=4294967296) (by decide) m;have hvx:=Zgb (B:=4294967296) (by decide) n;have hvy:=Zgb (B:=4294967296) (by decide) m;unfold Z2a at hn;generalize Zm 4294967296 n=a at *;generalize Zm 4294967296 m=b at *;rw [Zab];refine Znb (fun s:(List Int)×Int×Int=>∃ k c:Nat,s.2.2=(k:Int)∧s.2.1=(c:Int)∧k≤a.length∧s.1.length=k∧Dig 4294967296 s.1∧c≤1 ∧
  val 4294967296 s.1+val 4294967296 (b.take k)=val 4294967296 (a.take k)+4294967296^k*c) (fun s=>a.length-s.2.2.toNat)
  (fun r:List Int=>val 4294967296 r=n-m)
  ⟨0,0,rfl,rfl,by omega,rfl,Dig.nil,by omega,by simp [val]⟩ (Z1a (by simp;omega)) ?_ ?_
 ·rintro ⟨out,c,i⟩ ⟨k,c,rfl,rfl,hk,ho,hd,hc,hv⟩;simp only at ho hd hc hv ⊢;by_cases hlt:k<a.length
  ·left;obtain ⟨x,hx,hx'⟩:=Zle hdx hlt;rw [decide_eq_true (by omega),ZH,Z9 hlt,Ze,hx,ZVm (by omega),Zka (by omega) (by omega),Ze];obtain ⟨y,hy',hvb,hf⟩:∃ y:Nat,y<4294967296∧val 4294967296 (b.take (k+1))=val 4294967296 (b.take k)+4294967296^k*y ∧
     ifb (decide ((k:Int)<(b.length:Int))) (bnd (idx b (k:Int)) fun y178=>bnd (chk .i64 ((x:Int)-(c:Int)-(IntKind.i64.wrap y178))) fun y186=>some y186) (some ((x:Int)-(c:Int)))=some ((x:Int)-(c:Int)-(y:Int)):=by
    by_cases hb:k<b.length
    ·obtain ⟨y,hy,hy'⟩:=Zle hdy hb;refine ⟨y,hy',?_,?_⟩
     ·rw [Zfc hb,hy];rfl
     ·rw [decide_eq_true (by omega),ZH,Z9 hb,Ze,hy,ZVm (by omega),Zka (by omega) (by omega),Ze]
    ·refine ⟨0,by omega,?_,?_⟩
     ·rw [List.take_of_length_le (by omega),List.take_of_length_le (by omega)];simp
     ·rw [decide_eq_false (by omega),ZF];simp
   rw [hf,Ze];obtain ⟨d,c',hd',hc',e,hg⟩:∃ d c':Nat,d<4294967296∧c'≤1∧d+y+c=x+4294967296*c' ∧
     ifb (decide ((x:Int)-(c:Int)-(y:Int)<0)) (bnd (chk .i64 ((x:Int)-(c:Int)-(y:Int)+4294967296)) fun y175=>some ((1:Int),y175)) (some ((0:Int),(x:Int)-(c:Int)-(y:Int)))=some ((c':Int),(d:Int)):=by
    by_cases h:(x:Int)-c-y<0
    ·refine ⟨x+4294967296-c-y,1,by omega,by omega,by omega,?_⟩;rw [decide_eq_true h,ZH,Zka (by omega) (by omega),Ze];congr 2;omega
    ·refine ⟨x-c-y,0,by omega,by omega,by omega,?_⟩;rw [decide_eq_false h,ZF];congr 2;omega
   rw [hg,Ze];simp only;have ew:IntKind.u32.wrap (d:Int)=(d:Int):=by rw [wrap_u32];omega
   rw [ew,ZXe (by simp;omega),Ze,Zka (by omega) (by omega),Ze];refine ⟨_,rfl,⟨k+1,c',by simp,rfl,by omega,by simp [ho],hd.snoc (by omega),hc',?_⟩,by simp;omega⟩;simp only [Zfh,ho,Int.toNat_natCast];rw [Zfc hlt,hx,hvb,Nat.pow_succ];simp only [Int.toNat_natCast];exact Zsl hv e
  ·right;rw [decide_eq_false (by omega),ZF];refine ⟨_,rfl,?_⟩;have hk':k=a.length:=by omega
   subst hk';rw [List.take_length,List.take_of_length_le hl,hvx,hvy] at hv;have hlt2:=Zae hd;rw [ho] at hlt2;have:c=0:=by
    have h1:c=0∨c=1:=by omega
    rcases h1 with rfl | rfl
    ·rfl
    ·omega
   subst this;omega
 ·rintro out hv;rw [Ze];unfold Znc;rw [hv,Ze]
theorem ZCq {n m z:Nat} (h:Zed n m=some z):ZCh n m=some z:=by
 unfold Zed at h;split at h
 ·rename_i hh;rw [rdif_eq hh.1 hh.2,h]
 ·cases h
theorem ZAs {n m:Nat} (hn:Z2a n) (hm:Z2a m):Zni n m=some (n*m):=by
 unfold Zni;have hdx:=Zxb (B:=4294967296) (by decide) n;have hdy:=Zxb (B:=4294967296) (by decide) m;have hvx:=Zgb (B:=4294967296) (by decide) n;have hvy:=Zgb (B:=4294967296) (by decide) m;unfold Z2a at hn hm;generalize Zm 4294967296 n=a at *;generalize Zm 4294967296 m=b at *;rw [Zka (by omega) (by omega),Ze];obtain ⟨u,hu⟩:=Z3d (b:=4) (l:=(a.length:Int)+b.length) (c:=(a.length:Int)+b.length) (by omega) (by omega) (by omega) (by omega);rw [hu,Ze,Zab];have e0:((a.length:Int)+b.length).toNat=a.length+b.length:=by omega
 rw [e0];refine Znb (fun s:(List Int)×Int=>∃ k:Nat,s.2=(k:Int)∧k≤a.length∧s.1.length=a.length+b.length∧Dig 4294967296 s.1 ∧
  val 4294967296 s.1=val 4294967296 (a.take k)*val 4294967296 b∧∀ j (h:j<s.1.length),k+b.length≤j→s.1[j]=0) (fun s=>a.length-s.2.toNat)
  (fun r:List Int=>val 4294967296 r=n*m) ⟨0,rfl,by omega,by simp,Dig.replicate _ (by omega),by simp [val,Zbj],by simp⟩ (Z1a (by simp;omega)) ?_ ?_
 ·rintro ⟨out,i⟩ ⟨k,rfl,hk,ho,hd,hv,hz⟩;simp only at ho hd hv hz ⊢;by_cases hlt:k<a.length
  ·left;obtain ⟨X,hX,hX'⟩:=Zle hdx hlt;rw [decide_eq_true (by omega),ZH,Zab];refine Znl (s:=(out,(0:Int),(0:Int))) (fun s:(List Int)×Int×Int=>∃ q c:Nat,s.2.2=(q:Int)∧s.2.1=(c:Int)∧q≤b.length∧s.1.length=a.length+b.length∧Dig 4294967296 s.1∧c<4294967296 ∧
     val 4294967296 s.1+4294967296^(k+q)*c=val 4294967296 (a.take k)*val 4294967296 b+4294967296^k*X*val 4294967296 (b.take q)∧∀ j (h:j<s.1.length),k+b.length≤j→s.1[j]=0)
    (fun s=>b.length-s.2.2.toNat)
    (fun r:List Int×Int=>∃ c:Nat,r.2=(c:Int)∧r.1.length=a.length+b.length∧Dig 4294967296 r.1∧c<4294967296 ∧
     val 4294967296 r.1+4294967296^(k+b.length)*c=val 4294967296 (a.take k)*val 4294967296 b+4294967296^k*X*val 4294967296 b∧∀ j (h:j<r.1.length),k+b.length≤j→r.1[j]=0)
    ⟨0,0,rfl,rfl,by omega,ho,hd,by omega,(show val 4294967296 out+4294967296^(k+0)*0=val 4294967296 (a.take k)*val 4294967296 b+4294967296^k*X*val 4294967296 (b.take 0) by simp [val,hv]),hz⟩ (Z1a (by simp;omega)) ?_ ?_
   ·rintro ⟨o,c,i⟩ ⟨q,c,rfl,rfl,hq,ho2,hd2,hc,hv2,hz2⟩;simp only at ho2 hd2 hc hv2 hz2 ⊢;by_cases hqlt:q<b.length
    ·left;obtain ⟨Y,hY,hY'⟩:=Zle hdy hqlt;have hkq:k+q<o.length:=by omega
     obtain ⟨T,hT,hT'⟩:=Zle hd2 hkq;have eck:chk .i64 ((k:Int)+(q:Int))=some ((k+q:Nat):Int):=by rw [← Int.natCast_add,Ztb (by omega)]
     have hxy:X*Y≤18446744065119617025:=Nat.mul_le_mul (show X≤4294967295 by omega) (show Y≤4294967295 by omega);have e1:IntKind.u64.wrap ((X:Int)*(Y:Int))=((X*Y:Nat):Int):=by rw [← Int.natCast_mul,Zgc (by omega)]
     have e2:IntKind.u64.wrap ((c:Int)+((X*Y:Nat):Int))=((c+X*Y:Nat):Int):=by rw [← Int.natCast_add,Zgc (by omega)]
     have e3:IntKind.u64.wrap (((c+X*Y:Nat):Int)+(T:Int))=((c+X*Y+T:Nat):Int):=by rw [← Int.natCast_add,Zgc (by omega)]
     have e4:ZUa .u64 ((c+X*Y+T:Nat):Int) 32=some (((c+X*Y+T) / 4294967296:Nat):Int):=Zme (x:=c+X*Y+T) (k:=32) (by omega);have e5:IntKind.u32.wrap ((c+X*Y+T:Nat):Int)=(((c+X*Y+T)%4294967296:Nat):Int):=by rw [wrap_u32];omega
     rw [decide_eq_true (by omega),ZH,Z9 hlt,Ze,Z9 hqlt,Ze,eck,Ze,Z9 hkq,Ze,Ze,Z9 hkq,Ze,hX,hY,hT,Zgc (by omega),Zgc (by omega),Zgc (by omega),e1,e2,e3,e4,Ze,Zka (by omega) (by omega),Ze,e5];refine ⟨_,rfl,⟨q+1,(c+X*Y+T) / 4294967296,by simp,rfl,by omega,by simp [ho2],hd2.set _ (by omega),by omega,?_,?_⟩,by simp;omega⟩
     ·simp only [Int.toNat_natCast];have hs:=ZFg (B:=4294967296) (l:=o) (i:=k+q) (x:=(((c+X*Y+T)%4294967296:Nat):Int)) hkq;rw [hT] at hs;simp only [Int.toNat_natCast] at hs;rw [Zfc hqlt,hY];simp only [Int.toNat_natCast];rw [show k+(q+1)=k+q+1 by omega,Nat.pow_succ];exact ZSo hv2 hs (by omega) (Nat.pow_add _ _ _)
     ·intro j hj hj2;simp only [Int.toNat_natCast] at hj ⊢;rw [List.getElem_set_ne (by omega)];exact hz2 j (by simpa using hj) hj2
    ·right;rw [decide_eq_false (by omega),ZF];have hq':q=b.length:=by omega
     subst hq';rw [List.take_length] at hv2;exact ⟨_,rfl,c,rfl,ho2,hd2,hc,hv2,hz2⟩
   ·rintro ⟨o,c⟩ ⟨c,rfl,ho2,hd2,hc,hv2,hz2⟩;simp only at ho2 hd2 hc hv2 hz2 ⊢;rw [Ze];simp only;have eck:chk .i64 ((k:Int)+(b.length:Int))=some ((k+b.length:Nat):Int):=by rw [← Int.natCast_add,Ztb (by omega)]
    have hkb:k+b.length<o.length:=by omega
    have ew:IntKind.u32.wrap (c:Int)=(c:Int):=by rw [wrap_u32];omega
    rw [eck,Ze,Z9 hkb,Ze,Zka (by omega) (by omega),Ze,ew];refine ⟨_,rfl,⟨k+1,by simp,by omega,by simp [ho2],hd2.set _ (by omega),?_,?_⟩,by simp;omega⟩
    ·have hs:=ZFg (B:=4294967296) (l:=o) (i:=k+b.length) (x:=(c:Int)) hkb;rw [hz2 _ hkb (by omega)] at hs;simp only [Int.toNat_natCast] at hs ⊢;rw [Zfc hlt,hX];simp only [Int.toNat_natCast];simp at hs;rw [hs,hv2];grind
    ·intro j hj hj2;simp only [Int.toNat_natCast] at hj ⊢;rw [List.getElem_set_ne (by omega)];exact hz2 j (by simpa using hj) (by omega)
  ·right;rw [decide_eq_false (by omega),ZF];have hk':k=a.length:=by omega
   subst hk';rw [List.take_length,hvx,hvy] at hv;exact ⟨_,rfl,hv⟩
 ·rintro out hv;rw [Ze];unfold Znc;rw [hv,Ze]
theorem ZQr {n m z:Nat} (h:Zmb n m=some z):Zni n m=some z:=by
 unfold Zmb at h;split at h
 ·rename_i hh;rw [ZAs hh.1 hh.2,h]
 ·cases h
noncomputable def ZOh (a:Nat) (b:Nat):Option (Nat) :=
 bnd (bnd (Z7 (fun s:(List Int)×Int×Int=>match s with
 | (d,e,c) =>
 (bnd (ifb (decide (c<(((Zm 4294967296 a)).length:Int)))
 (some true)
 (some (decide (c<(((Zm 4294967296 b)).length:Int)))))
 (fun (j:Bool) =>
 (ifb (j)
 (bnd (ifb (decide (c<(((Zm 4294967296 a)).length:Int)))
 (bnd (idx ((Zm 4294967296 a)) c) fun k =>
 some (IntKind.u64.wrap (e+(IntKind.u64.wrap k))))
 (some e))
 (fun (g:Int) =>
 (bnd (ifb (decide (c<(((Zm 4294967296 b)).length:Int)))
 (bnd (idx ((Zm 4294967296 b)) c) fun l =>
 some (IntKind.u64.wrap (g+(IntKind.u64.wrap l))))
 (some g))
 (fun (f:Int) =>
 (bnd (Z4a 4 (d++[IntKind.u32.wrap f])) fun t =>
 bnd (ZUa .u64 f (32:Int)) fun m =>
 bnd (chk .i64 (c+(1:Int))) fun n =>
 some (.inl (((d++[IntKind.u32.wrap f]),m,n))))))))
 (some (.inr ((d,e)))))))) Zga ((([]:(List Int)),(0:Int),(0:Int))))
 (fun (p:(List Int)×Int)=>match p with
 | (o,q) =>
 (some ((o,q)))))
 (fun (p:(List Int)×Int)=>match p with
 | (h,i) =>
 (bnd (Z4a 4 (h++[IntKind.u32.wrap i])) fun u =>
 bnd (Znc ((h++[IntKind.u32.wrap i]))) fun r =>
 some r))
theorem ZGm {l:List Int} (hd:Dig 4294967296 l) (k c:Nat) (hc:c<1099511627776):∃ x:Nat,x<4294967296∧val 4294967296 (l.take (k+1))=val 4294967296 (l.take k)+4294967296^k*x ∧
  ifb (decide ((k:Int)<(l.length:Int))) (bnd (idx l (k:Int)) fun y=>some (IntKind.u64.wrap ((c:Int)+IntKind.u64.wrap y))) (some (c:Int))=some ((c+x:Nat):Int):=by
 by_cases h:k<l.length
 ·obtain ⟨x,hx,hx'⟩:=Zle hd h;refine ⟨x,hx',?_,?_⟩
  ·rw [Zfc h,hx];rfl
  ·rw [decide_eq_true (by omega),ZH,Z9 h,Ze,hx,Zgc (by omega),← Int.natCast_add,Zgc (by omega)]
 ·refine ⟨0,by omega,?_,?_⟩
  ·rw [List.take_of_length_le (by omega),List.take_of_length_le (by omega)];simp
  ·rw [decide_eq_false (by omega),ZF];rfl
theorem rsum_eq {n m:Nat} (hn:Z2a n) (hm:Z2a m):ZOh n m=some (n+m):=by
 unfold ZOh;have hdx:=Zxb (B:=4294967296) (by decide) n;have hdy:=Zxb (B:=4294967296) (by decide) m;have hvx:=Zgb (B:=4294967296) (by decide) n;have hvy:=Zgb (B:=4294967296) (by decide) m;unfold Z2a at hn hm;generalize Zm 4294967296 n=a at *;generalize Zm 4294967296 m=b at *;rw [Zab];refine Znb (fun s:(List Int)×Int×Int=>∃ k c:Nat,s.2.2=(k:Int)∧s.2.1=(c:Int)∧k≤max a.length b.length∧s.1.length=k∧Dig 4294967296 s.1∧c≤1 ∧
  val 4294967296 s.1+4294967296^k*c=val 4294967296 (a.take k)+val 4294967296 (b.take k)) (fun s=>max a.length b.length-s.2.2.toNat)
  (fun r:List Int×Int=>∃ c:Nat,r.2=(c:Int)∧c≤1∧r.1.length=max a.length b.length∧Dig 4294967296 r.1∧val 4294967296 r.1+4294967296^r.1.length*c=n+m)
  ⟨0,0,rfl,rfl,by omega,rfl,Dig.nil,by omega,by simp [val]⟩ (Z1a (by simp;omega)) ?_ ?_
 ·rintro ⟨out,c,i⟩ ⟨k,c,rfl,rfl,hk,ho,hd,hc,hv⟩;simp only at ho hd hc hv ⊢;have cond:ifb (decide ((k:Int)<(a.length:Int))) (some true) (some (decide ((k:Int)<(b.length:Int))))=some (decide (k<max a.length b.length)):=by
   by_cases h:k<a.length
   ·rw [decide_eq_true (by omega),ZH,decide_eq_true (by omega)]
   ·rw [decide_eq_false (by omega),ZF];exact congrArg some (decide_eq_decide.2 (by omega))
  rw [cond,Ze];by_cases hlt:k<max a.length b.length
  ·left;obtain ⟨x,hx,hvx2,hf⟩:=ZGm hdx k c (by omega);obtain ⟨y,hy,hvy2,hg⟩:=ZGm hdy k (c+x) (by omega);rw [decide_eq_true hlt,ZH,hf,Ze,hg,Ze];have e1:IntKind.u32.wrap ((c+x+y:Nat):Int)=(((c+x+y)%4294967296:Nat):Int):=by rw [wrap_u32];omega
   have e2:ZUa .u64 ((c+x+y:Nat):Int) 32=some (((c+x+y) / 4294967296:Nat):Int):=Zme (x:=c+x+y) (k:=32) (by omega);rw [e1,ZXe (by simp;omega),Ze,e2,Ze,Zka (by omega) (by omega),Ze];refine ⟨_,rfl,⟨k+1,(c+x+y) / 4294967296,by simp,rfl,by omega,by simp [ho],hd.snoc (by omega),by omega,?_⟩,by simp;omega⟩;simp only [Zfh,ho,Int.toNat_natCast];rw [hvx2,hvy2,Nat.pow_succ];exact Zxm hv (by omega)
  ·right;rw [decide_eq_false hlt,ZF];have hk':k=max a.length b.length:=by omega
   refine ⟨_,rfl,c,rfl,hc,(show out.length=_ by omega),hd,?_⟩;rw [List.take_of_length_le (by omega),List.take_of_length_le (by omega),hvx,hvy] at hv;simp only;rw [ho];exact hv
 ·rintro ⟨out,c⟩ ⟨c,rfl,hc,hl,hd,hv⟩;simp only at hl hd hv ⊢;rw [Ze];simp only;have e1:IntKind.u32.wrap (c:Int)=(c:Int):=by rw [wrap_u32];omega
  rw [e1,ZXe (by simp;omega),Ze];unfold Znc;rw [Ze,Zfh,Int.toNat_natCast,hv]
theorem Zxr {n m z:Nat} (h:ZIg n m=some z):ZOh n m=some z:=by
 unfold ZIg at h;split at h
 ·rename_i hh;rw [rsum_eq hh.1 hh.2,h]
 ·cases h
theorem ZRr {n k:Nat} (hn:Z2a n) (hk:k≤1099511627776):ZAi n (k:Int)=some (n*2^k):=by
 unfold ZAi;rw [Zxk];by_cases h0:n=0
 ·subst h0;rw [show decide ((0:Nat)=0)=true from rfl,ZH,Nat.zero_mul]
 rw [decide_eq_false h0,ZF];have hdx:=Zxb (B:=4294967296) (by decide) n;have hvx:=Zgb (B:=4294967296) (by decide) n;unfold Z2a at hn;generalize Zm 4294967296 n=a at *;obtain ⟨w,hw⟩:∃ w,w=k / 32:=⟨_,rfl⟩;obtain ⟨s,hs⟩:∃ s,s=k%32:=⟨_,rfl⟩;have hks:k=32*w+s:=by omega
 have eq32:quo .i64 (k:Int) 32=some (w:Int):=by have:=Zvj (p:=k) (q:=32) (by omega) (by omega);rw [← hw] at this;exact this
 have er32:rem .i64 (k:Int) 32=some (s:Int):=by have:=ZRf (k:=.i64) (p:=k) (q:=32) (by omega);rw [← hs] at this;exact this
 have hR:4294967296^w*2^s=2^k:=by
  rw [show (4294967296:Nat)=2^32 from rfl,← Nat.pow_mul,← Nat.pow_add,← hks]
 have h2s:2^s≤2147483648:=Nat.le_trans (Nat.pow_le_pow_right (by omega) (show s≤31 by omega)) (by decide);obtain ⟨u,hu⟩:=Z3d (b:=4) (l:=(w:Int)) (c:=(w:Int)) (by omega) (by omega) (by omega) (by omega);rw [eq32,Ze,hu,Ze,Zab,Int.toNat_natCast];refine Znb (fun st:(List Int)×Int×Int=>∃ i c:Nat,st.2.2=(i:Int)∧st.2.1=(c:Int)∧i≤a.length∧st.1.length=w+i∧Dig 4294967296 st.1∧c<2^s ∧
  val 4294967296 st.1+4294967296^(w+i)*c=val 4294967296 (a.take i)*2^k) (fun st=>a.length-st.2.2.toNat)
  (fun r:List Int×Int=>∃ c:Nat,r.2=(c:Int)∧c<2^s∧r.1.length=w+a.length∧val 4294967296 r.1+4294967296^r.1.length*c=n*2^k)
  ⟨0,0,rfl,rfl,by omega,by simp,Dig.replicate _ (by omega),Nat.pow_pos (by omega),by simp [val,Zbj]⟩ (Z1a (by simp;omega)) ?_ ?_
 ·rintro ⟨out,c,i⟩ ⟨i,c,rfl,rfl,hi,ho,hd,hc,hv⟩;simp only at ho hd hc hv ⊢;by_cases hlt:i<a.length
  ·left;obtain ⟨x,hx,hx'⟩:=Zle hdx hlt;have hxs:x*2^s≤4294967295*2^s:=Nat.mul_le_mul_right _ (by omega);have hlt64:x*2^s+c<4294967296*2^s:=by omega
   have h64:4294967296*2^s≤9223372036854775808:=by omega
   have e1:Zic .u64 (x:Int) (s:Int)=some ((x*2^s:Nat):Int):=by rw [Z5e (by omega),Nat.mod_eq_of_lt (by omega)]
   have e2:orI .u64 ((x*2^s:Nat):Int) (c:Int)=((x*2^s+c:Nat):Int):=Zag hc (by omega);rw [decide_eq_true (by omega),ZH,Z9 hlt,Ze,er32,Ze,hx,Zgc (by omega),Zgc (by omega),e1,Ze,e2];obtain ⟨v,hv1⟩:∃ v,v=x*2^s+c:=⟨_,rfl⟩;rw [← hv1] at hlt64 ⊢;have e3:IntKind.u32.wrap (v:Int)=((v%4294967296:Nat):Int):=by rw [wrap_u32];omega
   have e4:ZUa .u64 (v:Int) 32=some ((v / 4294967296:Nat):Int):=Zme (x:=v) (k:=32) (by omega);rw [e3,ZXe (by simp;omega),Ze,e4,Ze,Zka (by omega) (by omega),Ze];refine ⟨_,rfl,⟨i+1,v / 4294967296,by simp,rfl,by omega,by simp [ho];omega,hd.snoc (by omega),?_,?_⟩,by simp;omega⟩
   ·omega
   ·simp only [Zfh,ho,Int.toNat_natCast];rw [Zfc hlt,hx,Nat.add_mul,← Nat.add_assoc w i 1,Nat.pow_succ];simp only [Int.toNat_natCast];have h1:4294967296^i*x*2^k=4294967296^(w+i)*(x*2^s):=by rw [← hR,Nat.pow_add];grind
    rw [h1,← hv,Nat.add_assoc];have h2:v=v%4294967296+4294967296*(v / 4294967296):=by omega
    have h3:4294967296^(w+i)*v=4294967296^(w+i)*(v%4294967296)+4294967296^(w+i)*4294967296*(v / 4294967296):=by
     conv=>lhs;rw [h2]
     rw [Nat.mul_add,Nat.mul_assoc]
    rw [Nat.add_assoc,← h3,hv1,Nat.mul_add];omega
  ·right;rw [decide_eq_false (by omega),ZF];have hi':i=a.length:=by omega
   subst hi';rw [List.take_length,hvx] at hv;exact ⟨_,rfl,c,rfl,hc,ho,by simp only;rw [ho];exact hv⟩
 ·rintro ⟨out,c⟩ ⟨c,rfl,hc,hl,hv⟩;simp only at hl hv ⊢;rw [Ze];simp only;have e1:IntKind.u32.wrap (c:Int)=(c:Int):=by rw [wrap_u32];omega
  rw [e1,ZXe (by simp;omega),Ze];unfold Znc;rw [Ze,Zfh,Int.toNat_natCast,hv]
theorem Zdr {n z:Nat} {k:Int} (h:Zwf n k=some z):ZAi n k=some z:=by
 unfold Zwf at h;split at h
 ·rename_i hh;obtain ⟨K,rfl⟩:=Int.eq_ofNat_of_zero_le hh.2.1;rw [ZRr hh.1 (by omega),← h];rfl
 ·cases h
theorem Zzp {n d:Nat} (hn:Z2a n) (hd0:0<d) (hd1:d<4294967296):Zmi n (d:Int)=some (n / d,((n%d:Nat):Int)):=by
 unfold Zmi;have hdx:=Zxb (B:=4294967296) (by decide) n;have hvx:=Zgb (B:=4294967296) (by decide) n;unfold Z2a at hn;generalize Zm 4294967296 n=a at *;obtain ⟨u,hu⟩:=Z3d (b:=4) (l:=(a.length:Int)) (c:=(a.length:Int)) (by omega) (by omega) (by omega) (by omega);rw [hu,Ze,Zka (by omega) (by omega),Ze,Zab,Int.toNat_natCast];refine Znb (fun st:(List Int)×Int×Int=>∃ k r:Nat,st.2.2=(k:Int)-1∧st.2.1=(r:Int)∧k≤a.length∧st.1.length=a.length∧Dig 4294967296 st.1∧r<d ∧
  val 4294967296 (a.drop k)=val 4294967296 (st.1.drop k)*d+r) (fun st=>(st.2.2+1).toNat)
  (fun st:List Int×Int=>∃ r:Nat,st.2=(r:Int)∧r<d∧n=val 4294967296 st.1*d+r)
  ⟨a.length,0,rfl,rfl,by omega,by simp,Dig.replicate _ (by omega),hd0,by simp [List.drop_eq_nil_of_le,val]⟩ (Z1a (by simp;omega)) ?_ ?_
 ·rintro ⟨out,r,i⟩ ⟨k,r,hi,rfl,hk,ho,hd,hr,hv⟩;simp only at hi ho hd hr hv ⊢;subst hi;by_cases h0:k=0
  ·right;subst h0;rw [show decide ((0:Int)≤((0:Nat):Int)-1)=false from rfl,ZF];rw [List.drop_zero,List.drop_zero,hvx] at hv;exact ⟨_,rfl,r,rfl,hr,hv⟩
  ·left;obtain ⟨j,rfl⟩:∃ j,k=j+1:=⟨k-1,by omega⟩;have ej:((j+1:Nat):Int)-1=(j:Int):=by omega
   rw [ej];have hja:j<a.length:=by omega
   have hjo:j<out.length:=by omega
   obtain ⟨x,hx,hx'⟩:=Zle hdx hja;have e1:Zic .u64 (r:Int) 32=some ((r*2^32:Nat):Int):=by
    have:=Z5e (x:=r) (k:=32) (by omega);rw [Nat.mod_eq_of_lt (by omega)] at this;exact this
   have e2:orI .u64 ((r*2^32:Nat):Int) (x:Int)=((r*2^32+x:Nat):Int):=Zag (k:=32) (by omega) (by omega);obtain ⟨v,hv1⟩:∃ v,v=r*2^32+x:=⟨_,rfl⟩;have hvlt:v<d*4294967296:=by omega
   have hq:v / d<4294967296:=(Nat.div_lt_iff_lt_mul hd0).2 (by rw [Nat.mul_comm];exact hvlt);have hm:=Nat.mod_lt v hd0;have hdm:=Nat.div_add_mod v d;have e3:quo .u64 (v:Int) (d:Int)=some ((v / d:Nat):Int):=Zdh hd0 (by omega);have e4:rem .u64 (v:Int) (d:Int)=some ((v%d:Nat):Int):=ZRf hd0;rw [decide_eq_true (by omega),ZH,e1,Ze,Z9 hja,Ze,hx,Zgc (by omega),Zgc (by omega),e2,← hv1,e3,Ze,Z9 hjo,Ze,e4,Ze,Zka (by omega) (by omega),Ze];generalize v / d=q at *;generalize v%d=r' at *;have e5:IntKind.u32.wrap (q:Int)=(q:Int):=by rw [wrap_u32];omega
   rw [e5];refine ⟨_,rfl,⟨j,r',rfl,rfl,by omega,by simp [ho],hd.set _ (by omega),hm,?_⟩,by simp⟩;simp only [Int.toNat_natCast];have e6:(out.set j (q:Int)).drop j=(q:Int) :: out.drop (j+1):=by
    rw [List.drop_eq_getElem_cons (by simpa using hjo),List.getElem_set_self,List.drop_set_of_lt (by omega)]
   rw [e6,Zbd hja,hx,hv];simp only [val,Int.toNat_natCast];have:4294967296*(val 4294967296 (out.drop (j+1))*d+r)+x=4294967296*val 4294967296 (out.drop (j+1))*d+v:=by rw [hv1];grind
   grind
 ·rintro ⟨out,r⟩ ⟨r,rfl,hr,hv⟩;simp only at hr hv ⊢;rw [Ze];simp only;unfold Znc;have e1:IntKind.u32.wrap (r:Int)=(r:Int):=by rw [wrap_u32];omega
  rw [Ze,e1,hv];have h1:(val 4294967296 out*d+r) / d=val 4294967296 out:=by
   rw [Nat.mul_comm,Nat.mul_add_div hd0,Nat.div_eq_of_lt hr,Nat.add_zero]
  have h2:(val 4294967296 out*d+r)%d=r:=by
   rw [Nat.mul_comm,Nat.mul_add_mod,Nat.mod_eq_of_lt hr]
  rw [h1,h2]
theorem ZEr {n:Nat} {d:Int} {z:Nat×Int} (hd:inR .u32 d) (h:Z0f n d=some z):Zmi n d=some z:=by
 unfold Z0f at h;split at h
 ·rename_i hh;have hd:0≤d∧d≤4294967295:=hd;obtain ⟨D,rfl⟩:=Int.eq_ofNat_of_zero_le hd.1;rw [Zzp hh.1 (by omega) (by omega),← h];rfl
 ·cases h
theorem ZSs {v R s:Nat} (hs:s≤31):(v+18446744073709551616*R) / 2^s%4294967296=v / 2^s%4294967296:=by
 have e:18446744073709551616*R=2^s*(4294967296*(2^(32-s)*R)):=by
  have:(18446744073709551616:Nat)=2^s*(4294967296*2^(32-s)):=by
   rw [show (4294967296:Nat)=2^32 from rfl,← Nat.pow_add,← Nat.pow_add,show s+(32+(32-s))=64 by omega]
  rw [this,Nat.mul_assoc,Nat.mul_assoc]
 rw [e,Nat.add_mul_div_left _ _ (Nat.pow_pos (by omega)),Nat.add_mul_mod_self_left]
theorem Z7q (T B j:Nat):T%B^(j+1)=T%B^j+B^j*(T / B^j%B):=by
 rw [Nat.pow_succ,Nat.mod_mul]
theorem ZCo {B n:Nat} (hB:2≤B) (w:Nat):val B ((Zm B n).drop w)=n / B^w:=by
 induction w generalizing n with
 | zero=>rw [List.drop_zero,Zgb hB,Nat.pow_zero,Nat.div_one]
 | succ w ih =>
  by_cases h:n=0
  ·subst h;rw [Zcb];simp [val]
  ·rw [ZGd hB h,List.drop_succ_cons,ih,Nat.div_div_eq_div_mul,Nat.pow_succ,Nat.mul_comm B]
theorem ZXs {n k:Nat} (hn:Z2a n) (hk:k≤9223372036854775807):ZCi n (k:Int)=some (n / 2^k):=by
 unfold ZCi;have hdx:=Zxb (B:=4294967296) (by decide) n;have hdv:∀ w,val 4294967296 ((Zm 4294967296 n).drop w)=n / 4294967296^w:=ZCo (by decide);unfold Z2a at hn;generalize Zm 4294967296 n=a at *;obtain ⟨w,hw⟩:∃ w,w=k / 32:=⟨_,rfl⟩;obtain ⟨s,hs⟩:∃ s,s=k%32:=⟨_,rfl⟩;have hks:k=32*w+s:=by omega
 have eq32:quo .i64 (k:Int) 32=some (w:Int):=by have:=Zvj (p:=k) (q:=32) (by omega) (by omega);rw [← hw] at this;exact this
 have er32:rem .i64 (k:Int) 32=some (s:Int):=by have:=ZRf (k:=.i64) (p:=k) (q:=32) (by omega);rw [← hs] at this;exact this
 have hR:4294967296^w*2^s=2^k:=by
  rw [show (4294967296:Nat)=2^32 from rfl,← Nat.pow_mul,← Nat.pow_add,← hks]
 have hlen:∀ j,a.length≤w+j→n / 4294967296^(w+j)=0:=by
  intro j hj;rw [← hdv,List.drop_eq_nil_of_le hj];rfl
 rw [eq32,Ze,Zab];refine Znb (fun st:(List Int)×Int=>∃ j:Nat,st.2=((w+j:Nat):Int)∧(j=0∨w+j≤a.length)∧st.1.length=j∧Dig 4294967296 st.1∧val 4294967296 st.1=n / 2^k%4294967296^j) (fun st=>a.length-st.2.toNat)
  (fun r:List Int=>val 4294967296 r=n / 2^k) ⟨0,rfl,.inl rfl,rfl,Dig.nil,by simp [val,Nat.mod_one]⟩ (Z1a (by simp;omega)) ?_ ?_
 ·rintro ⟨out,i⟩ ⟨j,rfl,hj,ho,hd,hv⟩;simp only at ho hd hv ⊢;have hT:n / 2^k / 4294967296^j=n / 4294967296^(w+j) / 2^s:=by
   rw [Nat.div_div_eq_div_mul,Nat.div_div_eq_div_mul,← hR,Nat.pow_add];congr 1;grind
  by_cases hlt:w+j<a.length
  ·left;obtain ⟨x,hx,hx'⟩:=Zle hdx hlt;have c1:chk .i64 (((w+j:Nat):Int)+1)=some ((w+j+1:Nat):Int):=by rw [show ((w+j:Nat):Int)+1=((w+j+1:Nat):Int) by omega,Ztb (by omega)]
   obtain ⟨v,R,hv1,hv2,hf⟩:∃ v R:Nat,v<18446744073709551616∧n / 4294967296^(w+j)=v+18446744073709551616*R ∧
     ifb (decide (((w+j+1:Nat):Int)<(a.length:Int))) (bnd (chk .i64 (((w+j:Nat):Int)+1)) fun y155=>bnd (idx a y155) fun y157=>bnd (Zic .u64 (IntKind.u64.wrap y157) 32) fun y163=>some (orI .u64 (x:Int) y163)) (some (x:Int))=some (v:Int):=by
    rw [← hdv,Zbd hlt,hx];simp only [Int.toNat_natCast];by_cases h:w+j+1<a.length
    ·obtain ⟨y,hy,hy'⟩:=Zle hdx h;refine ⟨x+4294967296*y,val 4294967296 (a.drop (w+j+1+1)),by omega,?_,?_⟩
     ·rw [Zbd h,hy];simp only [Int.toNat_natCast];omega
     ·have e1:Zic .u64 (y:Int) 32=some ((y*2^32:Nat):Int):=by
       have:=Z5e (x:=y) (k:=32) (by omega);rw [Nat.mod_eq_of_lt (by omega)] at this;exact this
      have e2:orI .u64 (x:Int) ((y*2^32:Nat):Int)=((x+4294967296*y:Nat):Int):=by
       have hc:orI .u64 (x:Int) ((y*2^32:Nat):Int)=orI .u64 ((y*2^32:Nat):Int) (x:Int):=by unfold orI;rw [BitVec.or_comm]
       rw [hc,Zag (k:=32) (by omega) (by omega)];exact congrArg (fun q:Nat=>(q:Int)) (by omega)
      rw [decide_eq_true (by omega),ZH,c1,Ze,Z9 h,Ze,hy,Zgc (by omega),e1,Ze,e2]
    ·refine ⟨x,0,by omega,?_,?_⟩
     ·rw [List.drop_eq_nil_of_le (by omega)];simp [val]
     ·rw [decide_eq_false (by omega),ZF]
   rw [c1] at hf;rw [decide_eq_true (by omega),ZH,Z9 hlt,Ze,c1,Ze,hx,Zgc (by omega),hf,Ze,er32,Ze,Zgc (by omega),Zme (by omega),Ze];have e3:IntKind.u32.wrap ((v / 2^s:Nat):Int)=((v / 2^s%4294967296:Nat):Int):=by rw [wrap_u32];omega
   rw [e3,ZXe (by simp;omega),Ze,Ze];refine ⟨_,rfl,⟨j+1,by simp only;omega,.inr (by omega),by simp [ho],hd.snoc (by omega),?_⟩,by simp;omega⟩;simp only [Zfh,ho,Int.toNat_natCast];rw [Z7q,hv,hT,hv2,ZSs (by omega)]
  ·right;rw [decide_eq_false (by omega),ZF];refine ⟨_,rfl,?_⟩;rw [hv];apply Nat.mod_eq_of_lt;have h0:n / 2^k / 4294967296^j=0:=by rw [hT,hlen j (by omega),Nat.zero_div]
   rcases (Nat.div_eq_zero_iff).1 h0 with h | h
   ·exact absurd h (Nat.pos_iff_ne_zero.1 (Nat.pow_pos (by omega)))
   ·exact h
 ·rintro out hv;rw [Ze];unfold Znc;rw [hv,Ze]
theorem Zes {n z:Nat} {k:Int} (hk:inR .i64 k) (h:ZOg n k=some z):ZCi n k=some z:=by
 unfold ZOg at h;split at h
 ·rename_i hh;have hk:=Zqc.1 hk;obtain ⟨K,rfl⟩:=Int.eq_ofNat_of_zero_le hh.2;rw [ZXs hh.1 (by omega),← h];rfl
 ·cases h
def Zkb (n:Nat):Prop:=(Zm 4294967296 n).length≤68719476736
instance (n:Nat):Decidable (Zkb n):=inferInstanceAs (Decidable (_≤_))
def ZXd (n m:Nat):Option (Nat×Nat):=if Zkb n∧Zkb m∧m≠0 then some (n / m,n%m) else none
def rgcF (n m:Nat):Option Nat:=if Zkb n∧Zkb m then some (Nat.gcd n m) else none
def Zpc (s:Bool) (n d:Nat):Option Rat:=if Zkb n∧Zkb d∧d≠0 then some (mkRat (sgn s n) d) else none
def ZDg (n:Nat):Option (List UInt8):=if Zkb n then some (ZHa n) else none
def ZXf (x:Rat):Option Rat:=if okQ x then some (-x) else none
def ZKc (x y:Rat):Option Rat:=if smQ x∧smQ y then some (x+y) else none
def Zzf (x y:Rat):Option Rat:=if smQ x∧smQ y then some (x-y) else none
def Zgd (x y:Rat):Option Rat:=if smQ x∧smQ y then some (x*y) else none
def Zai (x y:Rat):Option (Rat×Int):=if smQ x∧smQ y then some (if y=0 then (0,3) else (x / y,0)) else none
def Z0e (x y:Rat):Option Rat:=if smQ x∧smQ y then some (if y=0 then 0 else x / y) else none
def ZNd (x y:Rat):Option Int:=if smQ x∧smQ y then some (x-y).num.sign else none
def Zqf (x y:Rat):Option Bool:=if smQ x∧smQ y then some (decide (x=y)) else none
def Zth (x:Rat):Option (List UInt8):=if okQ x then some (ZWd x) else none
def Z3f (x:Rat):Option (List UInt8):=if okQ x then some (ZWd x) else none
def Zbh (n:Nat):Option (List UInt8):=if okN n then some (ZHa n) else none
def ZJg (s:List UInt8) (c:Int):Option (List UInt8):=if 0≤c∧s.length*c.toNat≤140737488355328 then some (List.replicate c.toNat s).flatten else none
noncomputable def ZQi (a:Nat) (b:Nat):Option (Nat×Nat) :=
 bnd (Zge a b) fun t =>
 ifb (decide (t<(0:Int)))
 (some (((0:Nat),a)))
 (ifb (((((Zm 4294967296 b)).length:Int))==(1:Int))
 (bnd (idx ((Zm 4294967296 b)) (0:Int)) fun u =>
 bnd (Z0f a u) fun l =>
 bnd (Zde (IntKind.u64.wrap l.2)) fun v =>
 some ((l.1,v)))
 (bnd (chk .i64 ((32:Int)*((((Zm 4294967296 b)).length:Int)))) fun w =>
 bnd (ZXg b) fun x =>
 bnd (chk .i64 (w-x)) fun i =>
 bnd (Zwf b i) fun c =>
 bnd (Zwf a i) fun y =>
 bnd (chk .i64 (((((Zm 4294967296 a)).length:Int))-((((Zm 4294967296 c)).length:Int)))) fun z =>
 bnd (chk .i64 (z+(2:Int))) fun g =>
 bnd (mk 4 g g) fun ag =>
 bnd (chk .i64 (((((List.replicate (g).toNat (0:Int))).length:Int))-(1:Int))) fun A =>
 bnd (bnd (Z7 (fun s:Nat×(List Int)×Int=>match s with
 | (e,h,d) =>
 (ifb (decide ((0:Int)≤d))
 (bnd (bnd (ifb (decide (d<(((Zm 4294967296 e)).length:Int)))
 (bnd (ZYa ((Zm 4294967296 e)) d ((((Zm 4294967296 e)).length:Int))) fun B =>
 some B)
 (some (([]:(List Int)))))
 (fun (f:(List Int)) =>
 (bnd (Znd f) fun C =>
 bnd (Zge C c) fun D =>
 ifb (decide (D<(0:Int)))
 (some ((e,h)))
 (bnd (chk .i64 (((((Zm 4294967296 c)).length:Int))-(1:Int))) fun E =>
 bnd (idx f E) fun m =>
 bnd (ifb (decide ((((Zm 4294967296 c)).length:Int)<(f.length:Int)))
 (bnd (idx f ((((Zm 4294967296 c)).length:Int))) fun F =>
 bnd (Zic .u64 (IntKind.u64.wrap F) (32:Int)) fun G =>
 some (orI .u64 (IntKind.u64.wrap m) G))
 (some (IntKind.u64.wrap m)))
 (fun (H:Int) =>
 (bnd (chk .i64 (((((Zm 4294967296 c)).length:Int))-(1:Int))) fun I =>
 bnd (idx ((Zm 4294967296 c)) I) fun J =>
 bnd (quo .u64 H (IntKind.u64.wrap J)) fun n =>
 bnd (ifb (decide ((4294967295:Int)<n))
 (some (4294967295:Int))
 (some n))
 (fun (o:Int) =>
 (bnd (Zde o) fun K =>
 bnd (Zmb c K) fun L =>
 bnd (bnd (Z7 (fun s:Int×Nat=>match s with
 | (q,j) =>
 (bnd (Znd f) fun M =>
 bnd (Zge j M) fun N =>
 ifb (decide ((0:Int)<N))
 (bnd (Zed j c) fun O =>
 some (.inl ((IntKind.u64.wrap (q-(1:Int)),O))))
 (some (.inr ((q,j)))))) Zga ((o,L)))
 (fun (p:Int×Nat)=>match p with
 | (P,Q) =>
 (some ((P,Q)))))
 (fun (p:Int×Nat)=>match p with
 | (R,S) =>
 (bnd (idx h d) fun ah =>
 bnd (ZYa ((Zm 4294967296 e)) (0:Int) d) fun k =>
 bnd (Z4a 4 (([]:(List Int))++k)) fun ai =>
 bnd (Znd f) fun T =>
 bnd (Zed T S) fun r =>
 bnd (Z4a 4 ((([]:(List Int))++k)++((Zm 4294967296 r)))) fun aj =>
 bnd (Znc (((([]:(List Int))++k)++((Zm 4294967296 r))))) fun U =>
 some ((U,(h.set (d).toNat (IntKind.u32.wrap R))))))))))))))
 (fun (p:Nat×(List Int))=>match p with
 | (V,W) =>
 (bnd (chk .i64 (d-(1:Int))) fun X =>
 some (.inl ((V,W,X))))))
 (some (.inr ((e,h)))))) Zga ((y,(List.replicate (g).toNat (0:Int)),A)))
 (fun (p:Nat×(List Int))=>match p with
 | (Y,Z) =>
 (some ((Y,Z)))))
 (fun (p:Nat×(List Int))=>match p with
 | (aa,ac) =>
 (bnd (Znc ac) fun ad =>
 bnd (ZOg aa i) fun ae =>
 some ((ad,ae))))))
end Go.Eng
