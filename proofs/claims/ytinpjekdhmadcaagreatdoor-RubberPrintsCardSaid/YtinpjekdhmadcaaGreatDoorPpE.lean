/- Lemmas towards the statement: the engine of the walks, the functions' models, laws and walks, part 5. Conditions: as each states. -/
import Derived.Test.YtinpjekdhmadcaaGreatDoorPpD
set_option linter.all false
set_option maxRecDepth 100000
namespace Go.Eng
noncomputable def ZNj (p:List ((List UInt8)×(List (List UInt8))×(List (Int×Rat×(List UInt8))))):Option ((List UInt8)×Int) :=
 bnd (Zvj p) λi =>
 ifb (i != (0:Int))
 (some (([]:List UInt8),i))
 (bnd (Zi (σ:=(List UInt8)×Int) (ρ:=List UInt8) (λa =>
 ifb (decide (a.2<(p.length:Int)))
 (bnd (Z4 (a.1++([115,116,101,112,32]:List UInt8))) λ_ =>
 bnd (idx p a.2) λg =>
 bnd (Z4 ((a.1++([115,116,101,112,32]:List UInt8))++g.1)) λ_ =>
 bnd (Z4 (((a.1++([115,116,101,112,32]:List UInt8))++g.1)++([10]:List UInt8))) λ_ =>
 bnd (Zi (σ:=(List UInt8)×Int) (ρ:=List UInt8) (λc =>
 bnd (idx p a.2) λj =>
 ifb (decide (c.2<(j.2.1.length:Int)))
 (bnd (Z4 (c.1++([100,111,32]:List UInt8))) λ_ =>
 bnd (idx p a.2) λk =>
 bnd (idx k.2.1 c.2) λh =>
 bnd (Z4 ((c.1++([100,111,32]:List UInt8))++h)) λ_ =>
 bnd (Z4 (((c.1++([100,111,32]:List UInt8))++h)++([10]:List UInt8))) λ_ =>
 bnd (chk .i64 (c.2+(1:Int))) λl =>
 some (.inl (((c.1++([100,111,32]:List UInt8))++h)++([10]:List UInt8),l)))
 (some (.inr c.1)))
      Zm (((a.1++([115,116,101,112,32]:List UInt8))++g.1)++([10]:List UInt8),(0:Int))) λm =>
 bnd (Zi (σ:=(List UInt8)×Int) (ρ:=List UInt8) (λb =>
 bnd (idx p a.2) λn =>
 ifb (decide (b.2<(n.2.2.length:Int)))
 (bnd (idx p a.2) λo =>
 bnd (idx o.2.2 b.2) λe =>
 bnd (Z4 (b.1++([119,104,101,110,32]:List UInt8))) λ_ =>
 bnd (ZEg e.1) λd =>
 bnd (Z4 ((b.1++([119,104,101,110,32]:List UInt8))++d)) λ_ =>
 bnd (Z4 (((b.1++([119,104,101,110,32]:List UInt8))++d)++([32]:List UInt8))) λ_ =>
 bnd (Znf e.2.1) λf =>
 bnd (Z4 ((((b.1++([119,104,101,110,32]:List UInt8))++d)++([32]:List UInt8))++f)) λ_ =>
 bnd (Z4 (((((b.1++([119,104,101,110,32]:List UInt8))++d)++([32]:List UInt8))++f)++([32,103,111,32]:List UInt8))) λ_ =>
 bnd (Z4 ((((((b.1++([119,104,101,110,32]:List UInt8))++d)++([32]:List UInt8))++f)++([32,103,111,32]:List UInt8))++e.2.2)) λ_ =>
 bnd (Z4 (((((((b.1++([119,104,101,110,32]:List UInt8))++d)++([32]:List UInt8))++f)++([32,103,111,32]:List UInt8))++e.2.2)++([10]:List UInt8))) λ_ =>
 bnd (chk .i64 (b.2+(1:Int))) λq =>
 some (.inl (((((((b.1++([119,104,101,110,32]:List UInt8))++d)++([32]:List UInt8))++f)++([32,103,111,32]:List UInt8))++e.2.2)++([10]:List UInt8),q)))
 (some (.inr b.1)))
      Zm (m,(0:Int))) λr =>
 bnd (chk .i64 (a.2+(1:Int))) λs =>
 some (.inl (r,s)))
 (some (.inr a.1)))
   Zm (([]:List UInt8),(0:Int))) λt =>
 some (t,(0:Int)))
def TX (x:Rat):Prop:=okQ x∧(ZLa x).length≤60
theorem ZLg (a b:List BS):ZP (a++b)=ZP a++ZP b:=by unfold ZP;rw[List.flatMap_append]
theorem Z9n (x:BS):ZP [x]=x++[10]:=by unfold ZP;simp
theorem ZYj (x:BS) (a:List BS):ZP (x :: a)=(x++[10])++ZP a:=by unfold ZP;rw[List.flatMap_cons]
theorem ZXh {B:Nat}:∀ (l:List BS),(∀ x ∈ l,x.length≤B)→(ZP l).length≤(B+1)*l.length
 | [],_=>by simp[ZP]
 | x :: r,h=>by
  have ih:=ZXh r λy hy=>h y (List.mem_cons_of_mem _ hy)
  have:=h x (by simp)
  rw[ZYj]
  simp only[lA,List.length_cons,List.length_nil,Nat.mul_succ]
  omega
theorem join2 (a b:BS):Lib.join [a,b] [32]=a++32 :: b:=by rw[Lib.join_cons];simp[Lib.joinTail]
theorem join5 (a b c d e:BS):Lib.join [a,b,c,d,e] [32]=a++32 :: (b++32 :: (c++32 :: (d++32 :: e))):=by rw[Lib.join_cons];simp[Lib.joinTail]
theorem Ztn {m:BS} {ws:List BS} {x:BS} (e:Lib.join ws [32]=x) (h:(m++(x++[10])).length≤65536):lnM m ws=some (m++(x++[10])):=by
 unfold lnM;rw[e,iP (by omega)]
theorem Zqk {d:BS} (h:d.length≤60):(doL d).length≤63:=by unfold doL;simp;omega
theorem Zpn {d:BS} (h:d.length≤24):(Zbb d).length≤29:=by unfold Zbb;simp;omega
theorem Zxi {g:GD} (h0:0≤g.1) (h5:g.1<5) (h:g.2.2.length≤24) (ht:TX g.2.1):(Zia g).length≤110:=by
 have:=(Zym h0 h5).2.2.2;have:=ht.2;unfold Zia;simp only[lA,List.length_cons,List.length_nil];omega
theorem ZCs:∀ (l:List BS) (m:BS),(∀ d ∈ l,d.length≤60)→(m++ZP (l.map doL)).length≤65536→doM l m=some (m++ZP (l.map doL))
 | [],m,_,_=>by simp[doM,ZP]
 | d :: l,m,h,hm=>by
  rw[List.map_cons,ZYj]at hm ⊢
  rw[doM,Ztn (x:=doL d) (join2 _ _) (by simp only[lA]at hm ⊢;omega),Za,ZCs l _ (λx hx=>h x (List.mem_cons_of_mem _ hx)) (by rw[aAq];exact hm),aAq]
theorem kW_q {k:Int} (h0:0≤k) (h5:k<5):ZWe k=some (kW k)∧ZEg k=some (kW k):=by
 obtain⟨n,rfl⟩:∃ n:Nat,k=n:=⟨k.toNat,by omega⟩;have:n=0∨n=1∨n=2∨n=3∨n=4:=by omega
 rcases this with rfl | rfl | rfl | rfl | rfl <;> exact⟨rfl,rfl⟩
theorem ZWt:∀ (l:List GD) (m:BS),(∀ g ∈ l,0≤g.1∧g.1<5∧TX g.2.1)→(m++ZP (l.map Zia)).length≤65536→guM l m=some (m++ZP (l.map Zia))
 | [],m,_,_=>by simp[guM,ZP]
 | g :: l,m,h,hm=>by
  obtain⟨a,b,c⟩:=h g (by simp)
  rw[List.map_cons,ZYj]at hm ⊢
  rw[guM,(kW_q a b).1,Za,show Zbc g.2.1=some (ZLa g.2.1) from iP c.1,Za,Ztn (x:=Zia g) (join5 _ _ _ _ _) (by simp only[lA]at hm ⊢;omega),Za,
   ZWt l _ (λx hx=>h x (List.mem_cons_of_mem _ hx)) (by rw[aAq];exact hm),aAq]
theorem Zen (s:STP) (p:List STP):ZRb (s :: p)=Zic s++ZRb p:=rfl
theorem Zwm (s:STP):ZP (Zic s)=(Zbb s.1++[10])++(ZP (s.2.1.map doL)++ZP (s.2.2.map Zia)):=by
 unfold Zic;rw[ZYj,ZLg]
theorem Zls:∀ (p:List STP) (m:BS),(∀ s ∈ p,StOK s)→(∀ s ∈ p,∀ g ∈ s.2.2,TX g.2.1)→(m++ZZa p).length≤65536→stM p m=some (m++ZZa p)
 | [],m,_,_,_=>by simp[stM,ZZa,ZRb,ZP]
 | s :: p,m,h,ht,hm=>by
  have hs:=h s (by simp)
  have e:ZZa (s :: p)=((Zbb s.1++[10])++(ZP (s.2.1.map doL)++ZP (s.2.2.map Zia)))++ZZa p:=by unfold ZZa;rw[Zen,ZLg,Zwm]
  rw[e]at hm ⊢
  have hl:m.length+((Zbb s.1++[10]).length+((ZP (s.2.1.map doL)).length+(ZP (s.2.2.map Zia)).length)+(ZZa p).length)≤65536:=by simpa only[lA] using hm
  rw[stM,Ztn (x:=Zbb s.1) (join2 _ _) (by rw[lA];omega),Za,ZCs _ _ (λd hd=>(hs.dos d hd).2.2) (by rw[lA,lA];omega),Za,
   ZWt _ _ (λg hg=>⟨(hs.gus g hg).1,(hs.gus g hg).2.1,ht s (by simp) g hg⟩) (by rw[lA,lA,lA];omega),Za,
   Zls p _ (λx hx=>h x (List.mem_cons_of_mem _ hx)) (λx hx=>ht x (List.mem_cons_of_mem _ hx)) (by rw[lA,lA,lA,lA];omega)]
  simp only[aAq]
theorem Zfu {s:STP} (h:StOK s) (ht:∀ g ∈ s.2.2,TX g.2.1):(ZP (Zic s)).length≤2000:=by
 have h1:=Zpn h.nm.2.2.2;have h2:=ZXh (B:=63) (s.2.1.map doL) λx hx=>by
  obtain⟨d,hd,rfl⟩:=List.mem_map.1 hx;exact Zqk (h.dos d hd).2.2
 have h3:=ZXh (B:=110) (s.2.2.map Zia) λx hx=>by
  obtain⟨g,hg,rfl⟩:=List.mem_map.1 hx;exact Zxi (h.gus g hg).1 (h.gus g hg).2.1 (h.gus g hg).2.2.2.2.2 (ht g hg)
 rw[List.length_map]at h2 h3;have:=h.ld;have:=h.lg;rw[Zwm];simp only[lA,List.length_cons,List.length_nil];have a1:(63+1)*s.2.1.length≤64*16:=Nat.mul_le_mul_left _ h.ld;have a2:(110+1)*s.2.2.length≤111*8:=Nat.mul_le_mul_left _ h.lg;omega
theorem Z7j:∀ (p:List STP),(∀ s ∈ p,StOK s)→(∀ s ∈ p,∀ g ∈ s.2.2,TX g.2.1)→(ZZa p).length≤2000*p.length
 | [],_,_=>by simp[ZZa,ZRb,ZP]
 | s :: p,h,ht=>by
  have ih:=Z7j p (λx hx=>h x (List.mem_cons_of_mem _ hx)) (λx hx=>ht x (List.mem_cons_of_mem _ hx))
  have a:=Zfu (h s (by simp)) (ht s (by simp))
  unfold ZZa at *
  rw[Zen,ZLg,lA,List.length_cons,Nat.mul_succ]
  omega
def prT (p:List STP):BS×Int:=if Z4a p≠0 then ([],Z4a p) else (ZZa p,0)
theorem ZGx {p:List STP} (hS:∀ x ∈ p,SzS x) (hn:p.length≤100000) (ht:∀ s ∈ p,∀ g ∈ s.2.2,TX g.2.1):Zcf p=some (prT p):=by
 unfold Zcf prT;rw[Zst hS hn,Za];by_cases h:Z4a p=0
 ·have hk:=Zzn h;have hl:=Z7j p hk ht;have:=(ZIk h).2.1;rw[iN (λk=>k h),h,show ((0:Int) != 0)=false from rfl,Ze,Zls p [] hk ht (by rw[List.nil_append];omega),Za,List.nil_append]
 ·rw[iP h,show (Z4a p != (0:Int))=true by simpa using h,Zf]
theorem rs {l:BS} (h:l.length≤1000000):Z4 l=some ():=by
 unfold Z4 maxLen;rw[iP (by omega)]
theorem Zky {p:List STP} (hS:∀ x ∈ p,SzS x) (hn:p.length≤100000) (ht:∀ s ∈ p,∀ g ∈ s.2.2,TX g.2.1):ZNj p=some (prT p):=by
 unfold ZNj prT;rw[Zbx hS hn,Za];by_cases h:Z4a p=0
 ·have hk:=Zzn h;have h24:=(ZIk h).2.1;rw[iN (λk=>k h),h,show ((0:Int) != 0)=false from rfl,Ze];refine ZQ (ZNd (r:=ZZa p) (λk=>(ZZa (p.take k),(k:Int))) p.length rfl (by omega) (λk hkk=>?_) ?_) rfl
  ·try simp only
   have hs:=hk _ (List.getElem_mem hkk);have hts:=ht _ (List.getElem_mem hkk);have hacc:(ZZa (p.take k)).length≤48000:=by
    have:=Z7j (p.take k) (λx hx=>hk x (List.mem_of_mem_take hx)) (λx hx=>ht x (List.mem_of_mem_take hx));rw[List.length_take]at this;omega
   have hnext:ZZa (p.take (k+1))=ZZa (p.take k)++ZP (Zic p[k]):=by
    unfold ZZa;rw[List.take_succ_eq_append_getElem hkk,show ZRb (p.take k++[p[k]])=ZRb (p.take k)++Zic p[k] by unfold ZRb;rw[List.flatMap_append,List.flatMap_cons,List.flatMap_nil,List.append_nil],ZLg]
   have ix:idx p (k:Int)=some p[k]:=Zn hkk;rw[hnext];generalize ZZa (p.take k)=m at hacc;rw[dT (by omega),Zf,ix];generalize p[k]=y at hs hts;have hln:=Zpn hs.nm.2.2.2;have e1:((m++([115,116,101,112,32]:BS))++y.1)++([10]:BS)=m++(Zbb y.1++[10]):=by unfold Zbb;simp
   have l1:(m++(Zbb y.1++[10])).length≤48030:=by simp only[lA,List.length_cons,List.length_nil];omega
   have l2:(((m++([115,116,101,112,32]:BS))++y.1)++([10]:BS)).length≤48030:=by rw[e1];exact l1
   have l3:((m++([115,116,101,112,32]:BS))++y.1).length≤48030:=by simp only[lA]at l2 ⊢;omega
   have l4:(m++([115,116,101,112,32]:BS)).length≤48030:=by simp only[lA]at l2 ⊢;omega
   rw[rs (Nat.le_trans l4 (by decide)),Za,Za,rs (Nat.le_trans l3 (by decide)),Za,rs (Nat.le_trans l2 (by decide)),Za,e1];clear l2 l3 l4 e1;rw[Zwm,← aAq m (Zbb y.1++[10])];generalize m++(Zbb y.1++[10])=m1 at l1;have step1:∀ {l:List BS} {j:Nat} (hj:j<l.length),ZP ((l.take (j+1)).map doL)=ZP ((l.take j).map doL)++(doL l[j]++[10]):=λhj=>by
    rw[List.take_succ_eq_append_getElem hj,List.map_append,ZLg,List.map_cons,List.map_nil,Z9n]
   have step2:∀ {l:List GD} {j:Nat} (hj:j<l.length),ZP ((l.take (j+1)).map Zia)=ZP ((l.take j).map Zia)++(Zia l[j]++[10]):=λhj=>by
    rw[List.take_succ_eq_append_getElem hj,List.map_append,ZLg,List.map_cons,List.map_nil,Z9n]
   have len1:∀ j,(ZP ((y.2.1.take j).map doL)).length≤1100:=λj=>by
    have:=ZXh (B:=63) ((y.2.1.take j).map doL) λx hx=>by
     obtain⟨d,hd,rfl⟩:=List.mem_map.1 hx;exact Zqk (hs.dos d (List.mem_of_mem_take hd)).2.2
    rw[List.length_map,List.length_take]at this;have:=hs.ld;have a1:(63+1)*min j y.2.1.length≤64*16:=Nat.mul_le_mul_left _ (by omega);omega
   have len2:∀ j,(ZP ((y.2.2.take j).map Zia)).length≤1100:=λj=>by
    have:=ZXh (B:=110) ((y.2.2.take j).map Zia) λx hx=>by
     obtain⟨g,hg,rfl⟩:=List.mem_map.1 hx;have hg:=List.mem_of_mem_take hg;exact Zxi (hs.gus g hg).1 (hs.gus g hg).2.1 (hs.gus g hg).2.2.2.2.2 (hts g hg)
    rw[List.length_map,List.length_take]at this;have:=hs.lg;have a1:(110+1)*min j y.2.2.length≤111*8:=Nat.mul_le_mul_left _ (by omega);omega
   have hld:=hs.ld;have hlg:=hs.lg;refine ZQ (ZNd (r:=m1++ZP (y.2.1.map doL)) (λj=>(m1++ZP ((y.2.1.take j).map doL),(j:Int))) y.2.1.length (by simp[ZP]) (by omega) (λj hj=>?_) ?_) ?_
   ·try simp only
    have hd:=Zqk (hs.dos _ (List.getElem_mem hj)).2.2;have hl:=len1 j;rw[Za,dT (by omega),Zf,Za,Zn hj,Za,step1 hj];generalize y.2.1[j]=d at hd;generalize ZP ((y.2.1.take j).map doL)=u at hl;have e1:(((m1++u)++([100,111,32]:BS))++d)++([10]:BS)=m1++(u++(doL d++[10])):=by unfold doL;simp
    have l1:((((m1++u)++([100,111,32]:BS))++d)++([10]:BS)).length≤1000000:=by rw[e1];simp only[lA,List.length_cons,List.length_nil];omega
    have l2:(((m1++u)++([100,111,32]:BS))++d).length≤1000000:=by simp only[lA]at l1 ⊢;omega
    have l3:((m1++u)++([100,111,32]:BS)).length≤1000000:=by simp only[lA]at l1 ⊢;omega
    rw[rs l3,Za,rs l2,Za,rs l1,Za,Zv (by omega) (by omega),Za,e1];rfl
   ·try simp only
    rw[Za,dFq (by omega),Ze,List.take_length]
   try simp only
   have hl1:=len1 y.2.1.length;rw[List.take_length]at hl1;have l5:(m1++ZP (y.2.1.map doL)).length≤50000:=by rw[lA];omega
   refine ZQ (ZNd (r:=(m1++ZP (y.2.1.map doL))++ZP (y.2.2.map Zia)) (λj=>((m1++ZP (y.2.1.map doL))++ZP ((y.2.2.take j).map Zia),(j:Int))) y.2.2.length (by simp[ZP]) (by omega) (λj hj=>?_) ?_) ?_
   ·try simp only
    obtain⟨g0,g5,_,_,_,gl⟩:=hs.gus _ (List.getElem_mem hj);have gt:=hts _ (List.getElem_mem hj);have hl:=len2 j;rw[Za,dT (by omega),Zf,Za,Zn hj,Za,step2 hj];generalize y.2.2[j]=g at g0 g5 gl gt;generalize ZP ((y.2.2.take j).map Zia)=u at hl;generalize m1++ZP (y.2.1.map doL)=m2 at l5;have hw:=Zxi g0 g5 gl gt;rw[(kW_q g0 g5).2,show Znf g.2.1=some (ZLa g.2.1) from iP gt.1];have e1:(((((((m2++u)++([119,104,101,110,32]:BS))++kW g.1)++([32]:BS))++ZLa g.2.1)++([32,103,111,32]:BS))++g.2.2)++([10]:BS)=m2++(u++(Zia g++[10])):=by unfold Zia;simp
    have l1:((((((((m2++u)++([119,104,101,110,32]:BS))++kW g.1)++([32]:BS))++ZLa g.2.1)++([32,103,111,32]:BS))++g.2.2)++([10]:BS)).length≤1000000:=by rw[e1];simp only[lA,List.length_cons,List.length_nil];omega
    have l2:(((((((m2++u)++([119,104,101,110,32]:BS))++kW g.1)++([32]:BS))++ZLa g.2.1)++([32,103,111,32]:BS))++g.2.2).length≤1000000:=by rw[lA]at l1;omega
    have l3:((((((m2++u)++([119,104,101,110,32]:BS))++kW g.1)++([32]:BS))++ZLa g.2.1)++([32,103,111,32]:BS)).length≤1000000:=by rw[lA]at l2;omega
    have l4:(((((m2++u)++([119,104,101,110,32]:BS))++kW g.1)++([32]:BS))++ZLa g.2.1).length≤1000000:=by rw[lA]at l3;omega
    have l5:((((m2++u)++([119,104,101,110,32]:BS))++kW g.1)++([32]:BS)).length≤1000000:=by rw[lA]at l4;omega
    have l6:(((m2++u)++([119,104,101,110,32]:BS))++kW g.1).length≤1000000:=by rw[lA]at l5;omega
    have l7:((m2++u)++([119,104,101,110,32]:BS)).length≤1000000:=by rw[lA]at l6;omega
    rw[rs l7,Za,Za,rs l6,Za,rs l5,Za,Za,rs l4,Za,rs l3,Za,rs l2,Za,rs l1,Za,Zv (by omega) (by omega),Za,e1];rfl
   ·try simp only
    rw[Za,dFq (by omega),Ze,List.take_length]
   try simp only
   rw[Zv (by omega) (by omega),Za,aAq];rfl
  ·try simp only
   rw[dFq (by omega),Ze,List.take_length]
 ·rw[iP h,show (Z4a p != (0:Int))=true by simpa using h,Zf]
noncomputable def ZDh (l:List ((List UInt8)×(List (List UInt8))×(List (Int×(Int×Int)×(List UInt8))))):Option ((List ((List UInt8)×(List (List UInt8))×(List (Int×Rat×(List UInt8)))))×(List ((List UInt8)×(List (List UInt8))×(List (Int×Rat×(List UInt8)))))×Bool) :=
 bnd (mk 64 (l.length:Int) (l.length:Int)) λ_ =>
 bnd (mk 64 (l.length:Int) (l.length:Int)) λ_ =>
 ifb (decide ((30:Int)<(l.length:Int)))
 (some (List.replicate (l.length:Int).toNat (([]:List UInt8),([]:List (List UInt8)),([]:List (Int×Rat×(List UInt8)))),List.replicate (l.length:Int).toNat (([]:List UInt8),([]:List (List UInt8)),([]:List (Int×Rat×(List UInt8)))),false))
 (bnd (Zi (σ:=Int×(List ((List UInt8)×(List (List UInt8))×(List (Int×Rat×(List UInt8)))))×(List ((List UInt8)×(List (List UInt8))×(List (Int×Rat×(List UInt8)))))) (ρ:=((List ((List UInt8)×(List (List UInt8))×(List (Int×Rat×(List UInt8)))))×(List ((List UInt8)×(List (List UInt8))×(List (Int×Rat×(List UInt8)))))) ⊕ ((List ((List UInt8)×(List (List UInt8))×(List (Int×Rat×(List UInt8)))))×(List ((List UInt8)×(List (List UInt8))×(List (Int×Rat×(List UInt8)))))×Bool)) (λb =>
 ifb (decide (b.1<(l.length:Int)))
 (bnd (idx l b.1) λd =>
 bnd (α:=Bool)
 (ifb (decide ((20:Int)<(d.2.1.length:Int)))
 (some true)
 (some (decide ((10:Int)<(d.2.2.length:Int))))) λj =>
 ifb j
 (some (.inr (.inr (b.2.1,b.2.2,false))))
 (bnd (Zi (σ:=Int×((List UInt8)×(List (List UInt8))×(List (Int×Rat×(List UInt8))))×((List UInt8)×(List (List UInt8))×(List (Int×Rat×(List UInt8))))) (ρ:=((List UInt8)×(List (List UInt8))×(List (Int×Rat×(List UInt8))))×((List UInt8)×(List (List UInt8))×(List (Int×Rat×(List UInt8))))) (λa =>
 ifb (decide (a.1<(d.2.2.length:Int)))
 (bnd (idx d.2.2 a.1) λc =>
 bnd (ZT 80 (([]:List (Int×Rat×(List UInt8)))++a.2.1.2.2)) λ_ =>
 bnd (ZZg c.2.1) λg =>
 bnd (ZT 80 ((([]:List (Int×Rat×(List UInt8)))++a.2.1.2.2)++[(c.1,g,c.2.2)])) λ_ =>
 bnd (ZT 80 (([]:List (Int×Rat×(List UInt8)))++a.2.2.2.2)) λ_ =>
 bnd (rofF c.2.1) λh =>
 bnd (ZT 80 ((([]:List (Int×Rat×(List UInt8)))++a.2.2.2.2)++[(c.1,h,c.2.2)])) λ_ =>
 bnd (chk .i64 (a.1+(1:Int))) λk =>
 some (.inl (k,(a.2.1.1,a.2.1.2.1,(([]:List (Int×Rat×(List UInt8)))++a.2.1.2.2)++[(c.1,g,c.2.2)]),a.2.2.1,a.2.2.2.1,(([]:List (Int×Rat×(List UInt8)))++a.2.2.2.2)++[(c.1,h,c.2.2)])))
 (some (.inr ((a.2.1.1,a.2.1.2.1,a.2.1.2.2),a.2.2.1,a.2.2.2.1,a.2.2.2.2))))
       Zm ((0:Int),(d.1,d.2.1,([]:List (Int×Rat×(List UInt8)))),d.1,d.2.1,([]:List (Int×Rat×(List UInt8))))) λe =>
 bnd (idx b.2.1 b.1) λo =>
 bnd (idx b.2.2 b.1) λp =>
 bnd (chk .i64 (b.1+(1:Int))) λm =>
 some (.inl (m,b.2.1.set b.1.toNat (e.1.1,e.1.2.1,e.1.2.2),b.2.2.set b.1.toNat (e.2.1,e.2.2.1,e.2.2.2)))))
 (some (.inr (.inl (b.2.1,b.2.2)))))
   Zm ((0:Int),List.replicate (l.length:Int).toNat (([]:List UInt8),([]:List (List UInt8)),([]:List (Int×Rat×(List UInt8)))),List.replicate (l.length:Int).toNat (([]:List UInt8),([]:List (List UInt8)),([]:List (Int×Rat×(List UInt8)))))) λn =>
  match n with
| .inl i=>(some (i.1,i.2,true))
| .inr f=>(some (f.1,f.2.1,f.2.2)))
noncomputable def Zzj (l:List ((List UInt8)×(List (List UInt8))×(List (Int×(Int×Int)×(List UInt8))))):Option Bool :=
 bnd (ZDh l) λa =>
 ifb (!a.2.2)
 (bnd Zag λe =>
 some e)
 (bnd (Zcf a.1) λb =>
 bnd (ZNj a.2.1) λd =>
 bnd (α:=Bool)
 (ifb (b.1 != d.1)
 (some true)
 (some (b.2 != d.2))) λf =>
 ifb f
 (some false)
 (ifb (b.2 != (0:Int))
 (bnd Zag λg =>
 some g)
 (bnd (ZKj b.1) λc =>
 bnd (α:=Bool)
 (ifb (c.2.2==(0:Int))
 (ifb (c.2.1==(0:Int))
 (bnd (ZAk c.1 a.2.1) λh =>
 ifb h
 (bnd Zag λi =>
 some i)
 (some false))
 (some false))
 (some false)) λj =>
 some j)))
abbrev RawG:=Int×(Int×Int)×BS
abbrev RawS:=BS×List BS×List RawG
def toG (g:RawG):GD:=(g.1,ZDf g.2.1,g.2.2)
def toS (x:RawS):STP:=(x.1,x.2.1,x.2.2.map toG)
def bigS (x:RawS):Prop:=(20:Int)<x.2.1.length∨(10:Int)<x.2.2.length
structure SzW (l:List RawS):Prop where
 nam:∀ x ∈ l,x.1.length≤maxLen
 dos:∀ x ∈ l,∀ d ∈ x.2.1,d.length≤maxLen
 gs:∀ x ∈ l,∀ g ∈ x.2.2,i64 g.2.1
theorem Zny (l:List RawS) (hl:(l.length:Int)*64≤281474976710656):(∃ A B,ZDh l=some (A,B,false))∨(ZDh l=some (l.map toS,l.map toS,true)∧l.length≤30∧∀ x ∈ l,¬ bigS x):=by
  unfold ZDh;have hm:mk 64 (l.length:Int) (l.length:Int)=some ():=by unfold mk;rw[iP ⟨by omega,by omega,by omega,by omega⟩]
  rw[hm];simp only[Za,tN];by_cases h30:(30:Int)<l.length
  · rw[dT h30,Zf];exact .inl ⟨_,_,rfl⟩
  rw[dFq h30,Ze];have main:=ZLu (body:=λs1:Int×List STP×List STP =>
    ifb (decide (s1.1<(l.length:Int)))
    (bnd (idx l s1.1) λy2 =>
     bnd (α:=Bool)
     (ifb (decide ((20:Int)<(y2.2.1.length:Int)))
      (some true)
      (some (decide ((10:Int)<(y2.2.2.length:Int))))) λx3 =>
     ifb x3
     (some (.inr (.inr (s1.2.1,s1.2.2,false))))
     (bnd (Zi (σ:=Int×STP×STP) (ρ:=STP×STP) (λs4 =>
        ifb (decide (s4.1<(y2.2.2.length:Int)))
        (bnd (idx y2.2.2 s4.1) λy5 =>
         bnd (ZT 80 (([]:List GD)++s4.2.1.2.2)) λ_ =>
         bnd (ZZg y5.2.1) λy6 =>
         bnd (ZT 80 ((([]:List GD)++s4.2.1.2.2)++[(y5.1,y6,y5.2.2)])) λ_ =>
         bnd (ZT 80 (([]:List GD)++s4.2.2.2.2)) λ_ =>
         bnd (rofF y5.2.1) λy7 =>
         bnd (ZT 80 ((([]:List GD)++s4.2.2.2.2)++[(y5.1,y7,y5.2.2)])) λ_ =>
         bnd (chk .i64 (s4.1+(1:Int))) λy8 =>
         some (.inl (y8,(s4.2.1.1,s4.2.1.2.1,(([]:List GD)++s4.2.1.2.2)++[(y5.1,y6,y5.2.2)]),s4.2.2.1,s4.2.2.2.1,(([]:List GD)++s4.2.2.2.2)++[(y5.1,y7,y5.2.2)])))
        (some (.inr ((s4.2.1.1,s4.2.1.2.1,s4.2.1.2.2),s4.2.2.1,s4.2.2.2.1,s4.2.2.2.2))))
       Zm ((0:Int),(y2.1,y2.2.1,([]:List GD)),y2.1,y2.2.1,([]:List GD))) λx9 =>
      bnd (idx s1.2.1 s1.1) λy10 =>
      bnd (idx s1.2.2 s1.1) λy11 =>
      bnd (chk .i64 (s1.1+(1:Int))) λy12 =>
      some (.inl (y12,s1.2.1.set s1.1.toNat (x9.1.1,x9.1.2.1,x9.1.2.2),s1.2.2.set s1.1.toNat (x9.2.1,x9.2.2.1,x9.2.2.2)))))
    (some (.inr (.inl (s1.2.1,s1.2.2))))) (F:=Zm) (s:=((0:Int),List.replicate l.length dS,List.replicate l.length dS))
    (λr:(List STP×List STP) ⊕ (List STP×List STP×Bool)=>(∃ A B,r = .inr (A,B,false))∨(r = .inl (l.map toS,l.map toS)∧∀ x ∈ l,¬ bigS x))
    (λz=>∃ k:Nat,k≤l.length∧z=((k:Int),Zxc toS dS l k,Zxc toS dS l k)∧∀ x ∈ l.take k,¬ bigS x)
    (λz=>((l.length:Int)-z.1).toNat) ⟨0,Nat.zero_le _,by unfold Zxc;simp,by simp⟩ (ZX (by simp only;omega)) ?_
  · obtain⟨r,e,hr⟩:=main;refine (?_:(∃ A B,bnd (Zi _ Zm _) _=some (A,B,false))∨_);rcases hr with ⟨A,B,rfl⟩ | ⟨rfl,hb⟩
    · exact .inl ⟨A,B,ZQ e rfl⟩
    · exact .inr ⟨ZQ e rfl,by omega,hb⟩
  rintro z ⟨k,hk,rfl,hb⟩;by_cases hlt:k<l.length
  · simp only;rw[dT (by omega),Zf,Zn hlt,Za,or2,Za];by_cases hbig:bigS l[k]
    · right;rw[dT (show (20:Int)<l[k].2.1.length∨(10:Int)<l[k].2.2.length from hbig),Zf];exact⟨_,rfl,.inl ⟨_,_,rfl⟩⟩
    left;rw[dFq (show ¬ ((20:Int)<l[k].2.1.length∨(10:Int)<l[k].2.2.length) from hbig),Ze];have e1:=ZMy toS dS l hlt;have pl:=Zqu toS dS l (k:=k) (by omega);have hs:k<(Zxc toS dS l k).length:=by omega
    have hL:l[k].2.2.length≤10:=by unfold bigS at hbig;omega
    refine⟨((k+1:Nat),Zxc toS dS l (k+1),Zxc toS dS l (k+1)),?_,⟨k+1,hlt,rfl,λx hx=>?_⟩,by simp only;omega⟩
    · refine ZQ (y:=(toS l[k],toS l[k])) (ZNd (λj=>((j:Int),(l[k].1,l[k].2.1,(l[k].2.2.take j).map toG),(l[k].1,l[k].2.1,(l[k].2.2.take j).map toG))) l[k].2.2.length ?_ (by omega) (λj hj=>?_) ?_) ?_
      · simp only[List.take_zero,List.map_nil];rfl
      · have hlen:((l[k].2.2.take j).map toG).length=j:=by simp;omega
        have r1:ZT 80 ((l[k].2.2.take j).map toG)=some ():=by unfold ZT;rw[iP (by omega)]
        have r2:∀ x,ZT 80 ((l[k].2.2.take j).map toG++[x])=some ():=λx=>by unfold ZT;rw[iP (by rw[lA,hlen,List.length_singleton];omega)]
        have e:=takeM toG l[k].2.2 hj;simp only;rw[dT (by omega),Zf,Zn hj];simp only[Za,List.nil_append];unfold ZZg rofF;rw[r1];simp only[Za,r2];rw[Zv (by omega) (by omega),Za,e];rfl
      · simp only;rw[dFq (by omega),Ze,List.take_length];rfl
      · simp only;rw[Zn hs,Za,Za,Zv (by omega) (by omega),Za,tN,show ((toS l[k]).1,(toS l[k]).2.1,(toS l[k]).2.2)=toS l[k] from rfl,e1];rfl
    · rw[List.take_succ_eq_append_getElem hlt]at hx;rcases List.mem_append.1 hx with hx | hx
      · exact hb x hx
      · rw[List.mem_singleton]at hx;subst hx;exact hbig
  · right;have:k=l.length:=by omega
    subst this;simp only;rw[dFq (by omega),Ze,ZOu];rw[List.take_length]at hb;exact⟨_,rfl,.inr ⟨rfl,hb⟩⟩
theorem SzW.ok {l:List RawS} (h:SzW l) (hb:∀ x ∈ l,¬ bigS x):∀ x ∈ l.map toS,SzS x:=λx hx=>by
 obtain⟨y,hy,rfl⟩:=List.mem_map.1 hx
 have b:=hb y hy
 unfold bigS at b
 refine⟨h.nam y hy,h.dos y hy,?_,?_⟩
 ·show y.2.1.length≤100000
  omega
 ·show (y.2.2.map toG).length≤100000
  rw[List.length_map];omega
theorem SzW.rat {l:List RawS} (h:SzW l):∀ x ∈ l.map toS,∀ g ∈ x.2.2,sz 64 g.2.1:=λx hx g hg=>by
 obtain⟨y,hy,rfl⟩:=List.mem_map.1 hx
 obtain⟨g0,h0,rfl⟩:=List.mem_map.1 hg
 exact Z7w (h.gs y hy g0 h0)
theorem ZRt:∀ (k n:Nat),n<10^k→(ZN n).length≤k
 | 0,n,h=>by
  have:n=0:=by simpa using h
  subst this
  rw[ZHb]
  simp
 | k+1,n,h=>by
  by_cases h0:n=0
  ·subst h0;rw[ZHb];simp
  ·have:=ZRt k (n / 10) (by rw[Nat.pow_succ]at h;omega)
   rw[Zad h0]
   simp
   exact this
theorem tx_sz {x:Rat} (h:sz 64 x):TX x:=by
 have b:∀ n:Nat,bl n≤64→(ZU n).length≤20:=λn hn=>by
  have h1:n<10^20:=Nat.lt_of_lt_of_le (Z8d n) (Nat.le_trans (Nat.pow_le_pow_right (by decide) hn) (by decide));unfold ZU;split
  ·simp
  ·exact ZRt 20 n h1
 refine⟨⟨Nat.le_trans h.1 (by decide),Nat.le_trans h.2 (by decide)⟩,?_⟩;have h1:=b _ h.1;have h2:=b _ h.2;unfold ZLa;simp only[lA];have a1:(if x.num<0 then ([45]:List UInt8) else []).length≤1:=by split <;> simp
 have a2:(if x.den=1 then ([]:List UInt8) else 47 :: ZU x.den).length≤21:=by split <;> simp;omega
 omega
theorem Z7u {text:BS} (hl:text.length≤65536) (hs:∀ x ∈ Zy 10 text,x.length≤4096) (hn:(Zy 10 text).length≤10000):ZKj text=some (PP text):=by
 unfold ZKj PP;rw[dFq (by omega),Ze,show Zod text ([10]:List UInt8)=some (Zy 10 text) by unfold Zod;simp only;rw[iP (by omega)],Za];have h0:InvP (Zab none) 0:=⟨Nat.le_refl _,λy hy=>by cases hy⟩;obtain⟨z',e1,e2⟩:=ZMn (Zy 10 text) 0 none h0 (by omega) hs;have hI:=λp'=>Zxl (Zy 10 text) [] 0 (p':=p') h0 hs;simp only[Zab] at *;unfold Zhn;simp only;rw[e1,Za,Za]
 cases hR:RL [] 0 (Zy 10 text) with
 | inr n=>rfl
 | inl p =>
  have:=e2 p hR;have hp:=hI p hR;simp only;rw[show Zab z'=p from e2 p hR,show ((0:Int) != (0:Int))=false from rfl,Ze,Zst (SzS_of hp (by omega)) (by have:=hp.len;omega),Za];by_cases hc:Z4a p≠0
  ·rw[iP hc,show (Z4a p != (0:Int))=true by simpa using hc,Zf]
  ·rw[iN hc,show (Z4a p != (0:Int))=false by simpa using hc,Ze]
theorem lines_n {p:List STP} (h:∀ s ∈ p,StOK s):(ZRb p).length≤25*p.length:=by
 induction p with
 | nil=>simp[ZRb]
 | cons s p ih =>
  have:=ih λx hx=>h x (List.mem_cons_of_mem _ hx);have a:=(h s (by simp)).ld;have b:=(h s (by simp)).lg;rw[Zen,lA,List.length_cons];unfold Zic;simp only[List.length_cons,lA,List.length_map];omega
theorem lines_s {p:List STP} (h:∀ s ∈ p,StOK s) (ht:∀ s ∈ p,∀ g ∈ s.2.2,TX g.2.1):∀ x ∈ ZRb p,x.length≤4096:=by
 intro x hx;obtain⟨s,hs,hx⟩:=List.mem_flatMap.1 hx;have hk:=h s hs;unfold Zic at hx;rcases List.mem_cons.1 hx with rfl | hx
 ·have:=Zpn hk.nm.2.2.2;omega
 rcases List.mem_append.1 hx with hx | hx
 ·obtain⟨d,hd,rfl⟩:=List.mem_map.1 hx;have:=Zqk (hk.dos d hd).2.2;omega
 ·obtain⟨g,hg,rfl⟩:=List.mem_map.1 hx;have:=Zxi (hk.gus g hg).1 (hk.gus g hg).2.1 (hk.gus g hg).2.2.2.2.2 (ht s hs g hg);omega
theorem Zww (l:List RawS) (hl:(l.length:Int)*64≤281474976710656) (h:SzW l):Zzj l=some true:=by
 unfold Zzj;rcases Zny l hl with ⟨A,B,e⟩ | ⟨e,h30,hb⟩
 ·rw[e,Za,show (!false)=true from rfl,Zf,ZBn,Za]
 rw[e,Za,show (!true)=false from rfl,Ze];have hS:=h.ok hb;have hR:=h.rat;generalize hp:l.map toS=p at hS hR;have hlen:p.length≤30:=by rw[← hp,List.length_map];exact h30
 have hT:∀ s ∈ p,∀ g ∈ s.2.2,TX g.2.1:=λs hs g hg=>tx_sz (hR s hs g hg);simp only;rw[ZGx hS (by omega) hT,Za,Zky hS (by omega) hT,Za,show ((prT p).1 != (prT p).1)=false by simp,Ze,show ((prT p).2 != (prT p).2)=false by simp,Za,Ze];unfold prT;by_cases hc:Z4a p=0
 ·have hk:=Zzn hc;have h24:=(ZIk hc).2.1;have hl1:=Z7j p hk hT;have hs:=Zor hk;have hn:=lines_n hk;rw[iN (λk=>k hc),show (((ZZa p,(0:Int)):BS×Int).2 != (0:Int))=false from rfl,Ze];simp only;rw[Z7u (by omega) (λx hx=>by
   rw[hs]at hx;rcases List.mem_append.1 hx with hx | hx
   ·exact lines_s hk hT x hx
   ·rw[List.mem_singleton]at hx;subst hx;simp) (by rw[hs,lA];simp;omega),Za,PP_txt hk hc]
  simp only;rw[show ((0:Int)==0)=true from rfl,Zf,Zf,ZBx p (by omega) (λy hy=>by have:=(hk y hy).ld;have:=(hk y hy).lg;omega) (λy hy g hg=>by have:=hR y hy g hg;exact⟨Nat.le_trans this.1 (by decide),Nat.le_trans this.2 (by decide)⟩),Za,Zf,ZBn,Za,Za]
 ·rw[iP hc,show (((([]:BS),Z4a p):BS×Int).2 != (0:Int))=true by simpa using hc,Zf,ZBn,Za]
theorem Z3h {α:Type} {A:Rep α} {v:Zb} {cs:List Value} {l:List α} (h:(Zs A).rel v cs l) {x:α} (hx:x ∈ l):∃ c,A.rel v c x:=by
 obtain⟨q,cap,rfl,h1,h2,h3⟩:=h;rcases h3 with rfl | ⟨b,off,c,T,fr,e,hb,hr⟩
 ·cases hx
 ·obtain⟨i,hi,rfl⟩:=List.getElem_of_mem hx;exact⟨_,ZHa hr (List.getElem?_eq_getElem hi)⟩
theorem i64_of {v:Zb} {c:List Value} {r:Int×Int} (h:Rep.rel (ZD (Zd .i64) (Zd .i64)) v c r):i64 r:=by
 obtain⟨c1,c2,_,⟨_,h1⟩,_,h2⟩:=h;exact⟨Zva.1 h1,Zva.1 h2⟩
end Go.Eng
namespace Go.Eng
open Go.RowKit Go.WideShapes Go.ChangeShapes
theorem Znw {P:Program} {t:TypeId} (ht:P.underlying t=some .string):Zqb P t ZE:=by
 intro H enc W fuel cs x h
 cases fuel with
 | zero=>simp[DataW.trod]at h
 | succ n =>
  unfold DataW.trod at h;rw[ht]at h;split at h
  all_goals first | (rename_i s heq;cases heq;split at h <;> first | (exact⟨s.data.toList,rfl,by rename_i hs;exact hs⟩) | cases h) | (rename_i heq;cases heq) | (rename_i heq _;cases heq) | (simp at *) | cases h
theorem ZUq {P:Program} {t:TypeId} {f0 f1 f2:Field} {α β γ:Type} {A:Rep α} {B:Rep β} {C:Rep γ} (ht:P.underlying t=some (.struct #[f0,f1,f2])) (hA:Zqb P f0.type A) (hB:Zqb P f1.type B) (hC:Zqb P f2.type C)
  (o0:f0.offset=0) (c0:P.cellsOf f0.type=A.n) (o1:f1.offset=A.n) (c1:P.cellsOf f1.type=B.n) (o2:f2.offset=A.n+B.n) (c2:P.cellsOf f2.type=C.n) (ct:P.cellsOf t=A.n+B.n+C.n):Zqb P t (ZD A (ZD B C)):=by
 intro H enc W fuel cs x h;obtain⟨xs,n,_,_,hl,hx,hf⟩:=DataW.trod_struct ht h;have hx:xs.length=3:=hx;have h0:=hf 0 f0 rfl;have h1:=hf 1 f1 rfl;have h2:=hf 2 f2 rfl;rw[List.getElem?_eq_getElem (by omega)]at h0 h1 h2;rw[o0,c0,List.drop_zero]at h0;rw[o1,c1]at h1;rw[o2,c2]at h2;obtain⟨a,ha⟩:=hA _ _ _ _ _ _ h0;obtain⟨b,hb⟩:=hB _ _ _ _ _ _ h1;obtain⟨c,hc⟩:=hC _ _ _ _ _ _ h2;rw[List.take_of_length_le (by rw[List.length_drop,hl,ct];omega)]at hc;refine⟨(a,b,c),cs.take A.n,cs.drop A.n,(List.take_append_drop _ _).symm,ha,(cs.drop A.n).take B.n,cs.drop (A.n+B.n),?_,hb,hc⟩;rw[← List.drop_drop,List.take_append_drop]
end Go.Eng
namespace Go.Eng
open Go.RowKit
section
variable {P:Program} {N:Nat} {G:V→Value→Prop} {w0:Base} {v0:Zb} {U X:Nat→Prop} {f:Fr} {l:Lo} {a:Act} {w:World} {γ:Nat→Gh} {v:Zb} {ℓ:List Loc} {n:Nat}
variable {d:Option Nat} {ty:TypeId} {pos:String} {aft:Array Edge} {g:Option (Nat×Bool)}
theorem Z4q {ty:TypeId} {t:T} (hs:St N w0 v0 [] ℓ v a w):∀ k:Nat,∃ es,Zra v ty t (List.replicate k (none,0)) (List.replicate k ([]:List t.den)) es∧St N w0 v0 [] (es++ℓ) v a w
 | 0=>⟨[],rfl,hs⟩
 | k+1=>by
  obtain⟨es,h1,h2⟩:=Z4q hs k
  exact⟨.own none ty t.n 0 0 [] :: es,⟨[],es,rfl,rfl,h1⟩,h2.nilLoc ty t.n⟩
theorem ZIq {α:Type}:∀ k:Nat,Zq (List.replicate k ((none:Option Nat),0)) (List.replicate k ([]:List α))=(List.replicate k [Value.slice none 0 0]).flatten
 | 0=>rfl
 | k+1=>by simp only[List.replicate_succ,Zq,List.flatten_cons,ZIq k];rfl
theorem Z5t {C:Cf} (hr:RelX N G w0 v0 U X f l a w γ v ℓ) (hU:∀ k,U k→X k) (hX:X n) (hn:¬ U n) {t:TypeId} {x y:Operand} {o:Oper} {Post:Unit→Fr→Lo→Prop} (ho:o=⟨d,.makeSlice t x y,ty,pos,aft,g⟩) (hd:∀ k,o.dst=some k→k<N)
  (h:Zj n (ZM C n o) f l Post):Z8 C.P N G w0 v0 X o a w Post:=by
 subst ho;simp only[ZM]at h;obtain⟨V1,h1,_,hA⟩:=ZA hr h;obtain⟨V2,h2,_,hB⟩:=ZA hr hA;obtain⟨κ,i,rfl,hC⟩:=Zdb hB;obtain⟨κ',j,rfl,hD⟩:=Zdb hC;clear h hA hB hC;have h:=hD;obtain⟨e1,_⟩:=Zza h1;obtain⟨e2,_⟩:=Zza h2;split at h
 ·rename_i q dd hq;obtain⟨hE,hby⟩:=ZOk hq;obtain⟨_,hmk,h⟩:=h;obtain⟨m0,m1,m2,m3⟩:=Z6d hmk;obtain⟨E,hEE,hp⟩:=hr.lr;have hst:=hr.st.perm hp;obtain⟨σ,hσ,ev1,ev2⟩:=hst.ev2 x y;rw[e1]at ev1;rw[e2]at ev2;obtain⟨b,w',hrun,hst'⟩:=Z5s hE hσ m0 m1 m2 m3;have hrun':=hrun (d:=some dd) (ty:=ty) (pos:=pos) (aft:=aft) (g:=g) ev1 ev2;split at h
  ·split at h
   ·rename_i q2 r hq2 hz hs1;have hs1:=eQ hs1;split at h
    ·rename_i s hs;split at h
     ·have hz1:q.z.cells.toList=[.slice none 0 0]:=by
       have h1:=ZUe hz;have h2:=hE.cells;rw[hs1]at h2;have h3:q.z.cells.toList.length=1:=by simpa using h2
       rw[h1]at h3 ⊢;simp at h3;rw[h3]
      obtain⟨es,hR,hst2⟩:=Z4q (ty:=q2.e) (t:=s) hst'.bare i.toNat;have hst3:St N w0 v0 [] (.own (some b) q.e 1 (List.replicate i.toNat ([]:List s.den)).length j.toNat (Zq (List.replicate i.toNat ((none:Option Nat),0)) (List.replicate i.toNat ([]:List s.den))) :: es++E.flatten) v a w':=by
       rw[ZIq,List.length_replicate];rw[hs1,hz1]at hst2;exact hst2.perm List.perm_middle
      have hrun2:=hrun';rw[show (Value.slice (mkA (some b)) i.toNat j.toNat) = .slice (mkA (some b)) (List.replicate i.toNat ([]:List s.den)).length j.toNat by rw[List.length_replicate]]at hrun2;exact ZQj hr hU hX hn hd hEE rfl hR hst3 hrun2 h
     ·exact h.elim
    ·exact h.elim
   ·exact h.elim
  ·split at h
   ·rename_i s hs;split at h
    ·rename_i z r hz hzo hsz;have hsz:=eQ hsz;obtain⟨c1,k1,k2⟩:=Z9o (v:=v) hzo hz;have hl:=Rep.len _ k2;have hc:=hE.cells;have hr0:r=[]:=by
      have:q.z.cells.toList.length=q.sz:=by simpa using hc
      rw[k1,lA,hl,ZK,hsz]at this;exact List.length_eq_zero_iff.1 (by omega)
     rw[hr0,List.append_nil]at k1;have hrel:=Zbh k2 i.toNat;rw[k1]at hst';have hst2:St N w0 v0 [] (.own (some b) q.e s.n (List.replicate i.toNat z).length j.toNat (List.replicate i.toNat c1).flatten :: E.flatten) v a w':=by
      rw[List.length_replicate,← hsz];exact hst'.bare
     have hrun2:=hrun';rw[show (Value.slice (mkA (some b)) i.toNat j.toNat) = .slice (mkA (some b)) (List.replicate i.toNat z).length j.toNat by rw[List.length_replicate]]at hrun2;exact Zxg hr hU hX hn hd hEE rfl hst2 hrel hrun2 h
    ·exact h.elim
   ·exact h.elim
 ·exact h.elim
theorem Zxr {x:V} {cs:List Value} (h:RR v γ l false x cs) (hk:x.ok U):RR v γ l false (Zdf x) cs∧(Zdf x).ok U:=by
 unfold Zdf;split
 ·split
  ·rename_i hc;obtain⟨h1,h2⟩:=ZAn (U:=U) (γ:=γ) (l:=l) hc h;exact⟨h1,h2⟩
  ·exact⟨h,hk⟩
 ·exact⟨h,hk⟩
theorem ZYs:∀ {fs:List Field},Zqj P fs=true→∀ w,∃ L:List (Nat×Nat),(fs.mapM λ(f:Field)=>(do pure (f.offset,← sizeOf f.type):Sem (Nat×Nat))).run P w = .ok L w∧∀ (i:Nat) fd,fs[i]? = some fd→∃ inf,P.info? fd.type=some inf∧L[i]? = some (fd.offset,inf.size)
 | [],_,w=>⟨[],by simp,λi fd h=>by simp at h⟩
 | fd :: fs,h,w=>by
  simp only[Zqj]at h
  split at h
  ·rename_i inf hinf
   obtain⟨L,h1,h2⟩:=ZYs h w
   refine⟨(fd.offset,inf.size) :: L,?_,λi fd' hi=>?_⟩
   ·simp at h1
    simp[List.mapM_cons,Z6g hinf,h1]
   ·cases i with
    | zero=>simp at hi;subst hi;exact⟨inf,hinf,rfl⟩
    | succ i=>simp at hi;simpa using h2 i fd' hi
  ·cases h
theorem Zop {s:TypeId} {fs:Array Field} (hs:P.underlying s=some (.struct fs)) {places:Nat→Option (Nat×Nat)} (hp:∀ (i:Nat) (fd:Field),fs.toList[i]? = some fd→∃ inf,P.info? fd.type=some inf∧places i=some (fd.offset,inf.size)) :
  ∀ {ps:List (Nat×Operand)} {c z z':V} {cs:List Value} {vals:List Value},RR v γ l true c vals→c.ok U→vals.length=ps.length→RR v γ l false z cs→z.ok U→putF P s z (zipV ps c)=some z' →
  ∃ cs',Instr.fill places cs.toArray ((ps.map (·.1)).zip vals)=some cs'.toArray∧RR v γ l false z' cs'∧z'.ok U∧z'.isAgg=z.isAgg
 | [],c,z,z',cs,vals,hc,hk,hl,hz,hkz,h=>by
  have hv:vals=[]:=List.length_eq_zero_iff.1 hl
  subst hv
  have h:some z=some z':=by
   cases c <;> exact h
  cases h
  exact⟨cs,rfl,hz,hkz,rfl⟩
 | p :: ps,c,z,z',cs,vals,hc,hk,hl,hz,hkz,h=>by
  cases vals with
  | nil=>simp at hl
  | cons y vals =>
   cases c with
   | cons x c =>
    obtain⟨cx,vs,e,h1,h2⟩:=hc
    cases e
    simp only[zipV,putF]at h;split at h
    ·rename_i fd hfd;split at h
     ·rename_i q hq;split at h
      ·rename_i zz hsz hfit hput;have hsz:=eQ hsz;obtain⟨k1,k2,k3,k4⟩:=Z1d FU hput hz h1 hkz hk.1;have hfd':fs.toList[p.1]? = some fd:=by
        unfold fldT at hfd;rw[hs]at hfd;exact hfd
       obtain⟨inf,hinf,hpl⟩:=hp _ _ hfd';have hlen:cx.length=inf.size:=by
        rw[Z1c h1,hsz];unfold szA at hq;rw[hinf]at hq;split at hq
        ·rename_i i d e1 e2;cases e1;cases hq;rfl
        ·cases hq
       obtain⟨hcells,_⟩:=Zii h1 hfit;obtain⟨cs',q1,q2,q3,q4⟩:=Zop hs hp (ps:=ps) h2 hk.2 (by simpa using hl) k1 k2 h;refine⟨cs',?_,q2,q3,q4.trans k4⟩;simp only[List.map_cons,List.zip_cons_cons];rw[ZWm (cs:=cx) (off:=fd.offset) (by rw[hpl,hlen]) hcells (by simpa using k3)]
       simpa using q1
      ·cases h
     ·cases h
    ·cases h
   | nl=>cases (show (y :: vals)=[] from hc)
   | _=>exact (show False from hc).elim
theorem ZMp {n sz:Nat} {places:Nat→Option (Nat×Nat)} (hp:∀ i,i<n→places i=some (i*sz,sz)) :
  ∀ {ps:List (Nat×Operand)} {c z z':V} {cs:List Value} {vals:List Value},RR v γ l true c vals→c.ok U→vals.length=ps.length→RR v γ l false z cs→z.ok U→putA n sz z (zipV ps c)=some z' →
  ∃ cs',Instr.fill places cs.toArray ((ps.map (·.1)).zip vals)=some cs'.toArray∧RR v γ l false z' cs'∧z'.ok U∧z'.isAgg=z.isAgg
 | [],c,z,z',cs,vals,hc,hk,hl,hz,hkz,h=>by
  have hv:vals=[]:=List.length_eq_zero_iff.1 hl
  subst hv
  have h:some z=some z':=by
   cases c <;> exact h
  cases h
  exact⟨cs,rfl,hz,hkz,rfl⟩
 | p :: ps,c,z,z',cs,vals,hc,hk,hl,hz,hkz,h=>by
  cases vals with
  | nil=>simp at hl
  | cons y vals =>
   cases c with
   | cons x c =>
    obtain⟨cx,vs,e,h1,h2⟩:=hc
    cases e
    simp only[zipV,putA]at h;split at h
    ·rename_i zz hlt hsz hfit hput;have hlt:p.1<n:=lB hlt;have hsz:=eQ hsz;obtain⟨k1,k2,k3,k4⟩:=Z1d FU hput hz h1 hkz hk.1;have hlen:cx.length=sz:=by rw[Z1c h1,hsz]
     obtain⟨hcells,_⟩:=Zii h1 hfit;obtain⟨cs',q1,q2,q3,q4⟩:=ZMp hp (ps:=ps) h2 hk.2 (by simpa using hl) k1 k2 h;refine⟨cs',?_,q2,q3,q4.trans k4⟩;simp only[List.map_cons,List.zip_cons_cons];rw[ZWm (cs:=cx) (off:=p.1*sz) (by rw[hp _ hlt,hlen]) hcells (by simpa using k3)]
     simpa using q1
    ·cases h
   | nl=>cases (show (y :: vals)=[] from hc)
   | _=>exact (show False from hc).elim
theorem Zfy {C:Cf} (hr:RelX N G w0 v0 U X f l a w γ v ℓ) (hU:∀ k,U k→X k) (hX:X n) {t:TypeId} {ps:Array (Nat×Operand)} {o:Oper} {Post:Unit→Fr→Lo→Prop} (ho:o=⟨d,.build t ps,ty,pos,aft,g⟩) (hd:∀ k,o.dst=some k→k<N)
  (h:Zj n (ZM C n o) f l Post):Z8 C.P N G w0 v0 X o a w Post:=by
 subst ho;simp only[ZM]at h;split at h
 ·rename_i z fs hz ht;split at h
  ·rename_i hfl hag1 hag2;obtain⟨y,cs,hy,hcells,hzz,hkz,_⟩:=ZGl (v:=v) (γ:=γ) (l:=l) (U:=U) hz;obtain⟨L,hL1,hL2⟩:=ZYs hfl w;have hA:(fs.mapM λ(f:Field)=>(do pure (f.offset,← sizeOf f.type):Sem (Nat×Nat))).run C.P w = .ok L.toArray w:=by
    rw[Array.mapM_eq_mapM_toList];simp at hL1;simp[hL1]
   have hplaces:∀ (i:Nat) (fd:Field),fs.toList[i]? = some fd→∃ inf,C.P.info? fd.type=some inf∧(L.toArray[·]?) i=some (fd.offset,inf.size):=λi fd hi=>by
    obtain⟨inf,h1,h2⟩:=hL2 i fd hi;exact⟨inf,h1,by simpa using h2⟩
   have hev:∀ (vals:List (Nat×Value)) (cs':List Value),ps.toList.map (λp=>(p.1,a.eval p.2))=vals→Instr.fill (L.toArray[·]?) cs.toArray vals=some cs'.toArray→(execOp a.eval ⟨d,.build t ps,ty,pos,aft,g⟩).run C.P w = .ok (.value (.agg cs'.toArray)) w:=by
    intro vals cs' hv hf;obtain⟨σ,hσ,hev⟩:=hr.st.evs (ps.toList.map (·.2));refine ZOj hσ vals ?_ ?_
    ·rw[← hv,List.map_map];refine List.map_congr_left λp hp=>?_;rw[hev p.2 (List.mem_map.2 ⟨p,hp,rfl⟩)];rfl
    ·simp at hA hf;simp[Instr.build,hy w,hcells,run_underlying ht,hA,hf]
   split at h
   ·rename_i hps;refine ZZ hr hU (hev [] cs (by rw[hps];rfl) rfl) hd hX ?_ (V.ok.mono hU hkz) h;have:=ZYb hzz (λc e=>by subst e;cases hag2);unfold V.val at this;rw[hag2]at this;exact this
   ·rename_i hps;obtain⟨c,h1,h2,h⟩:=Z6e hr h;split at h
    ·rename_i z' hz';obtain⟨o1,o2⟩:=Zxr hzz hkz;have hvl:=h1;rw[List.map_map]at h1;obtain⟨cs',k1,k2,k3,k4⟩:=Zop ht hplaces (ps:=ps.toList) h1 h2 (by simp) o1 o2 hz';refine ZZ hr hU (hev _ cs' rfl ?_) hd hX ?_ (V.ok.mono hU k3) h
     ·rw[← k1];congr 1;rw[List.zip_map,← List.map_id (ps.toList.zip ps.toList)];simp[List.zip_eq_zipWith,List.zipWith_self,List.map_map]
     ·have:=ZYb k2 (λc e=>by subst e;rw[hag1]at k4;cases k4);unfold V.val at this;rw[k4,hag1]at this;exact this
    ·exact h.elim
  ·exact h.elim
 ·rename_i z m e hz ht;split at h
  ·rename_i inf hinf hag1 hag2;obtain⟨y,cs,hy,hcells,hzz,hkz,_⟩:=ZGl (v:=v) (γ:=γ) (l:=l) (U:=U) hz;obtain⟨c,h1,h2,h⟩:=Z6e hr h;split at h
   ·rename_i z' hz';obtain⟨o1,o2⟩:=Zxr hzz hkz;rw[List.map_map]at h1;obtain⟨cs',k1,k2,k3,k4⟩:=ZMp (places:=λi=>some (i*inf.size,inf.size)) (λi _=>rfl) (ps:=ps.toList) h1 h2 (by simp) o1 o2 hz';obtain⟨σ,hσ,hev⟩:=hr.st.evs (ps.toList.map (·.2));have hk1:Instr.fill (λi=>some (i*inf.size,inf.size)) cs.toArray (ps.toList.map λp=>(p.1,a.eval p.2))=some cs'.toArray:=by
     rw[← k1];congr 1;rw[List.zip_map,← List.map_id (ps.toList.zip ps.toList)];simp[List.zip_eq_zipWith,List.zipWith_self,List.map_map]
    refine ZZ hr hU (ZOj hσ (ps.toList.map λp=>(p.1,a.eval p.2)) ?_ (z:=.agg cs'.toArray) ?_) hd hX ?_ (V.ok.mono hU k3) h
    ·rw[List.map_map];refine List.map_congr_left λp hp=>?_;rw[hev p.2 (List.mem_map.2 ⟨p,hp,rfl⟩)];rfl
    ·simp[Instr.build,hy w,hcells,run_underlying ht,Z6g hinf,hk1]
    ·have:=ZYb k2 (λc e=>by subst e;rw[hag1]at k4;cases k4);unfold V.val at this;rw[k4,hag1]at this;exact this
   ·exact h.elim
  ·exact h.elim
 ·exact h.elim
end
end Go.Eng
namespace Go.Eng
open Go.RowKit
def CT.isAgg:CT→Bool
 | .dat t=>t.agg
 | .agg _=>true
 | _=>false
def CT.vl (c:CT) (cs:List Value):Value:=match c.isAgg with
 | true=>.agg cs.toArray
 | false=>cs.headD Go.undef
def CR (v:Zb):(c:CT)→Bool→c.den→List Value→List Loc→Prop
 | .dat t,false,x,cs,es=>t.rep.rel v cs x∧es=[]
 | .own ty t,false,(xs:List t.den),cs,es=>∃ ob cap d,cs=[.slice (mkA ob) xs.length cap]∧t.rep.rels v d xs∧es=[.own ob ty t.n xs.length cap d]
 | .mat ty ty2 t,false,(m:List (List t.den)),cs,es=>∃ ob cap rows es2,cs=[.slice (mkA ob) m.length cap]∧Zra v ty2 t rows m es2∧es = .own ob ty 1 m.length cap (Zq rows m) :: es2
 | .nl,_,_,cs,es=>cs=[]∧es=[]
 | .one a,false,x,cs,es=>CR v a false x cs es
 | .one a,true,x,cs,es=>∃ c,cs=[a.vl c]∧CR v a false x c es
 | .cons a b,false,x,cs,es=>∃ c1 c2 e1 e2,cs=c1++c2∧es=e1++e2∧CR v a false x.1 c1 e1∧CR v b false x.2 c2 e2
 | .cons a b,true,x,cs,es=>∃ c1 xs e1 e2,cs=a.vl c1 :: xs∧es=e1++e2∧CR v a false x.1 c1 e1∧CR v b true x.2 xs e2
 | .agg c,false,x,cs,es=>CR v c false x cs es
 | .box ty c,false,x,cs,es=>∃ b c1 e1,cs=[.pointer (some ⟨b,0,none⟩)]∧CR v c false x c1 e1∧c1.all plain=true∧es = .box b ty c1 :: e1
 | .mp,false,(m:Option MPd),cs,es=>∃ g y,cs=[y]∧mpH g m y∧ZZe g m es
 | .lst ty tyD tyG g,false,(xs:Option (List (List UInt8×List (List UInt8)×List g.den)×(List UInt8×List (List UInt8)×List g.den))),cs,es=>(xs=none∧cs=[.slice none 0 0]∧es=[]) ∨ ∃ (l:List (List UInt8×List (List UInt8)×List g.den)) (x:List UInt8×List (List UInt8)×List g.den) (b cap:Nat) (d d0:List Value) (o1 o2:Option Nat) (k1 k2:Nat) (d1 d2:List Value),xs=some (l,x)∧cs=[.slice (mkA (some b)) (l.length+1) cap]∧(stepT g).rep.rels v d l∧T.str.rep.rel v d0 x.1∧T.str.rep.rels v d1 x.2.1∧g.rep.rels v d2 x.2.2∧es=[.own (some b) ty 3 (l.length+1) cap (d++(d0++[.slice (mkA o1) x.2.1.length k1,.slice (mkA o2) x.2.2.length k2])),.own o1 tyD 1 x.2.1.length k1 d1,.own o2 tyG g.n x.2.2.length k2 d2]
 | _,_,_,_,_=>False
def CRL (v:Zb):(c:CT)→c.den→Gh→List Loc→Prop
 | .it,(z:List UInt8×Nat),g,es=>∃ b,g = .box b∧es=[.it b z.1 z.2]
 | .own ty t,(xs:List t.den),g,es=>∃ ob cap d,g = .own ob cap∧t.rep.rels v d xs∧es=[.own ob ty t.n xs.length cap d]
 | .mat ty ty2 t,(m:List (List t.den)),g,es=>∃ ob cap rows es2,g = .mat ob cap rows∧Zra v ty2 t rows m es2∧es = .own ob ty 1 m.length cap (Zq rows m) :: es2
 | .box ty c,z,g,es=>∃ b c1 e1,g = .box b∧CR v c false z c1 e1∧c1.all plain=true∧es = .box b ty c1 :: e1
 | .agg (.mat ty ty2 t),(m:List (List t.den)),g,es=>∃ ob cap rows es2,g = .mat ob cap rows∧Zra v ty2 t rows m es2∧es = .own ob ty 1 m.length cap (Zq rows m) :: es2
 | _,_,_,_=>False
def ZJa (v:Zb):(ts:List T)→List Value→ZC ts→Prop
 | [],vals,_=>vals=[]
 | [t],vals,x=>∃ cs,vals=[t.rep.val cs]∧t.rep.rel v cs x
 | t :: u :: r,vals,x=>∃ cs vs,vals=t.rep.val cs :: vs∧t.rep.rel v cs x.1∧ZJa v (u :: r) vs x.2
def Z4c (v:Zb) (ts:List T) (y:Value) (z:ZC ts):Prop:=match ts,z with
 | [t],z=>∃ cs,y=t.rep.val cs∧t.rep.rel v cs z
 | ts,z=>∃ vals:List Value,y = .tuple vals.toArray∧ZJa v ts vals z
def ZBd (P:Program) (f:FuncId) (c:Con):Prop:=∀ (w:World) (v:Zb) (vals:List Value) (x:ZC c.args) (z:ZC c.res),VIn v w→ZJa v c.args vals x→c.F x=some z →
 (ZF P f∧Ret P f vals.toArray w v λy v'=>Z4c v' c.res y z) ∨ ∃ y,(∀ w,(callFunc f vals.toArray).run P w = .ok (.value y) w)∧Z4c v c.res y z
def Zkn (P:Program) (f:FuncId) (c:ConO):Prop:=∀ (w:World) (v:Zb) (vals:List Value) (x:ZC c.args) (z:List c.t.den),VIn v w→ZJa v c.args vals x→c.F x=some z →
 ZF P f∧RetO P f vals.toArray w v (OwnR c.t.rep c.ty c.t.n z w)
def ZXj (P:Program) (f:FuncId) (c:ConI):Prop:=∀ (w:World) (v:Zb) (ob:Option Nat) (n cap:Nat) (cs:List Value) (l:List c.t.den) (i:Int) (bv kv:Nat) (c0:Array Value) (x:c.t.den) (z:List c.t.den),VIn v w→(Loc.own ob c.ty c.t.n n cap cs).holds w→(∀ b,ob=some b→v b=none)→c.t.rep.rels v cs l→n=l.length →
 1≤kv→v bv=some (.cells c0 c.ty (0,0))→c.t.rep.rel v (c0.toList.take c.t.n) x→inR .i64 i→c.F l i x=some z →
 ZF P f∧ZPd P f #[.slice (mkA ob) n cap,.int .i64 i,.slice (some ⟨bv,0,none⟩) 1 kv] w v ob.toList (OwnI c.t.rep c.ty c.t.n z ob w)
def OwnM (ty ty2:TypeId) (t:T) (m:List (List t.den)) (w:World) (r:Value) (v':Zb) (w':World):Prop :=
 ∃ ob cap rows es,r = .slice (mkA ob) m.length cap∧Zra v' ty2 t rows m es∧(∀ x ∈ Loc.own ob ty 1 m.length cap (Zq rows m) :: es,x.holds w'∧∀ b,x.blk=some b→w.heap.size≤b∧v' b=none)∧((Loc.own ob ty 1 m.length cap (Zq rows m) :: es).filterMap Loc.blk).Nodup
def Zon (P:Program) (f:FuncId) (c:ConM):Prop:=∀ (w:World) (v:Zb) (vals:List Value) (x:ZC c.args) (z:List (List c.t.den)),VIn v w→ZJa v c.args vals x→c.F x=some z →
 ZF P f∧RetO P f vals.toArray w v (OwnM c.ty c.ty2 c.t z w)
def OwnB (ty:TypeId) (c:CT) (res:List T) (b:Nat) (r:c.den×ZC res) (lent:List Nat) (w:World) (y:Value) (v':Zb) (w':World):Prop :=
 Z4c v' res y r.2∧∃ es',CRL v' (.box ty c) r.1 (.box b) es'∧(∀ e ∈ es',e.holds w'∧∀ k,e.blk=some k→(w.heap.size≤k∨k ∈ lent)∧v' k=none)∧(es'.filterMap Loc.blk).Nodup
def Z9h (P:Program) (f:FuncId) (c:ConB):Prop:=∀ (w:World) (v:Zb) (b:Nat) (es:List Loc) (vals:List Value) (z:c.c.den) (x:ZC c.args) (r:c.c.den×ZC c.res),VIn v w→CRL v (.box c.ty c.c) z (.box b) es→(∀ e ∈ es,e.holds w∧∀ k,e.blk=some k→v k=none)→(es.filterMap Loc.blk).Nodup→ZJa v c.args vals x→c.F z x=some r →
 ZF P f∧ZPd P f (Value.pointer (some ⟨b,0,none⟩) :: vals).toArray w v (es.filterMap Loc.blk) (OwnB c.ty c.c c.res b r (es.filterMap Loc.blk) w)
def ZAi (P:Program) (f:FuncId) (c:ConD):Prop:=∀ (w:World) (v:Zb) (ob:Option Nat) (n cap:Nat) (cs:List Value) (l:List c.t.den) (i j:Int) (z:List c.t.den),VIn v w→(Loc.own ob c.ty c.t.n n cap cs).holds w→(∀ b,ob=some b→v b=none)→c.t.rep.rels v cs l→n=l.length→inR .i64 i→inR .i64 j→c.F l i j=some z →
 ZF P f∧ZPd P f #[.slice (mkA ob) n cap,.int .i64 i,.int .i64 j] w v ob.toList (OwnI c.t.rep c.ty c.t.n z ob w)
def OwnPR (ty:TypeId) (t:T) (res:List T) (z:List t.den×ZC res) (w:World) (y:Value) (v':Zb) (w':World):Prop :=
 ∃ r0 rest,y = .tuple (r0 :: rest).toArray∧OwnR t.rep ty t.n z.1 w r0 v' w'∧ZJa v' res rest z.2
def ZOm (P:Program) (f:FuncId) (c:ConP):Prop:=∀ (w:World) (v:Zb) (vals:List Value) (x:ZC c.args) (z:List c.t.den×ZC c.res),VIn v w→ZJa v c.args vals x→c.F x=some z →
 ZF P f∧RetO P f vals.toArray w v (OwnPR c.ty c.t c.res z w)
def OwnS (ty:TypeId) (t:T) (res:List T) (ob:Option Nat) (n cap:Nat) (r:List t.den×ZC res) (y:Value) (v':Zb) (w':World):Prop :=
 Z4c v' res y r.2∧r.1.length=n∧∃ d,t.rep.rels v' d r.1∧(Loc.own ob ty t.n n cap d).holds w'∧∀ b,ob=some b→v' b=none
def ZOi (P:Program) (f:FuncId) (c:ConS):Prop:=∀ (w:World) (v:Zb) (ob:Option Nat) (cap:Nat) (d vals:List Value) (z:List c.t.den) (x:ZC c.args) (r:List c.t.den×ZC c.res),VIn v w→(Loc.own ob c.ty c.t.n z.length cap d).holds w→(∀ b,ob=some b→v b=none)→c.t.rep.rels v d z→ZJa v c.args vals x→c.F z x=some r →
 ZF P f∧ZPd P f (vals++[Value.slice (mkA ob) z.length cap]).toArray w v ([Loc.own ob c.ty c.t.n z.length cap d].filterMap Loc.blk) (OwnS c.ty c.t c.res ob z.length cap r)
def Zik (P:Program) (m:FuncId) (ps:List PanicEntry):Prop:=ZF P m∧(∀ w,Calls P m #[.bool true] w λe w'=>e = .returned (.tuple #[])∧w'=w)∧∀ w,Calls P m #[.bool false] w λe w'=>e = .panicked ps∧w'=w
def ZLf (C:Cf):Prop:=match C.ex.pan with
 | none=>True
 | some p=>Zik C.P p.1 p.2
structure CfOK (C:Cf):Prop where
 s:∀ f c,ZV C.sls f=some c→ZOi C.P f c
 c:∀ f c,ZV C.cons f=some c→ZBd C.P f c
 o:∀ f c,ZV C.owns f=some c→Zkn C.P f c
 i:∀ f c,ZV C.ins f=some c→ZXj C.P f c
 m:∀ t s f,lkM C.meths t s=some f→∀ y w,(method (C.P.types.size+Made.depth) t y s).run C.P w = .ok (f,y) w
 q:∀ f c,ZV C.omats f=some c→Zon C.P f c
 b:∀ f c,ZV C.boxs f=some c→Z9h C.P f c
 d:∀ f c,ZV C.dels f=some c→ZAi C.P f c
 p:∀ f c,ZV C.pows f=some c→ZOm C.P f c
 n:ZLf C
section
variable {P:Program} {N:Nat} {G:V→Value→Prop} {w0:Base} {v0:Zb} {U X:Nat→Prop} {f:Fr} {l:Lo} {a:Act} {w:World} {γ:Nat→Gh} {v:Zb} {ℓ:List Loc} {n:Nat}
variable {d:Option Nat} {ty:TypeId} {pos:String} {aft:Array Edge} {g:Option (Nat×Bool)}
theorem ZEp (hr:RelX N G w0 v0 U X f l a w γ v ℓ) {lo:Option Operand} {k:Option Int→Ev Unit} {Post:Unit→Fr→Lo→Prop} (h:Zj n (optI lo k) f l Post):∃ i,Zj n (k i) f l Post∧((lo=none∧i=none) ∨ ∃ y κ q,lo=some y∧i=some q∧a.eval y = .int κ q):=by
 cases lo with
 | none=>exact⟨none,h,.inl ⟨rfl,rfl⟩⟩
 | some y =>
  obtain⟨V1,h1,_,hA⟩:=ZA hr h;obtain⟨κ,i,rfl,hB⟩:=Zdb hA;exact⟨some i,hB,.inr ⟨y,κ,i,rfl,rfl,(Zza h1).1⟩⟩
theorem ZJj (hr:RelX N G w0 v0 U X f l a w γ v ℓ) (hU:∀ k,U k→X k) (hX:X n) {t:TypeId} {x:Operand} {lo hi:Option Operand} {o:Oper} {p:V} {i j:Option Int} {Post:Unit→Fr→Lo→Prop} (ho:o=⟨d,.slice t x lo hi none,ty,pos,aft,g⟩) (hd:∀ k,o.dst=some k→k<N) (hp:RV v γ l p (a.eval x))
  (hlo:(lo=none∧i=none) ∨ ∃ y κ q,lo=some y∧i=some q∧a.eval y = .int κ q) (hhi:(hi=none∧j=none) ∨ ∃ y κ q,hi=some y∧j=some q∧a.eval y = .int κ q) (h:Zj n (cutE P o t p i j) f l Post):Z8 P N G w0 v0 X o a w Post:=by
 obtain⟨σ,hσ,hev⟩:=hr.st.evs (x :: (lo.toList++hi.toList));have hx:=hev x (by simp);have h1:∀ m:Int,(ZZf i 0=m)→(lo=none∧m=0) ∨ ∃ y k,lo=some y∧ev σ y=some (.int k m):=by
  intro m hm;rcases hlo with ⟨e1,e2⟩ | ⟨y,κ,q,e1,e2,e3⟩
  ·subst e2;exact .inl ⟨e1,hm.symm⟩
  ·subst e1 e2;have hm:q=m:=hm;exact .inr ⟨y,κ,rfl,by rw[hev y (by simp),e3,hm]⟩
 have h2:∀ (len:Nat) (m:Int),(ZZf j (len:Int)=m)→(hi=none∧m=len) ∨ ∃ y k,hi=some y∧ev σ y=some (.int k m):=by
  intro len m hm;rcases hhi with ⟨e1,e2⟩ | ⟨y,κ,q,e1,e2,e3⟩
  ·subst e2;exact .inl ⟨e1,hm.symm⟩
  ·subst e1 e2;have hm:q=m:=hm;exact .inr ⟨y,κ,rfl,by rw[hev y (by simp),e3,hm]⟩
 unfold cutE at h;split at h
 ·rename_i s xs;obtain⟨qa,m,c,hy,hR⟩:=Z0l hp;rw[hy]at hx;split at h
  ·rename_i q hq;split at h
   ·rename_i hb;have hb:=eQ hb;have hSl:=ZTl hq;rw[hb,← ZK]at hSl;obtain⟨yy,hyy,h⟩:=h;obtain⟨c0,c1,c2,c3,_⟩:=Zef hyy;obtain⟨q',cap',hrun,hrel⟩:=Z0v hσ hSl hR c0 c1 c2;rw[← c3]at hrel;subst ho;exact ZZ hr hU (hrun hx (h1 _ rfl) (h2 _ _ rfl)) hd hX (x:=.data (.slice s) yy) ⟨[_],hrel,rfl⟩ trivial h
   ·exact h.elim
  ·exact h.elim
 ·obtain⟨e1,e2⟩:=ZZc hp;rw[e1]at hx;split at h
  ·rename_i ht;obtain⟨yy,hyy,h⟩:=h;subst ho;exact ZZ hr hU (Zpu hσ hx ht (h1 _ rfl) (h2 _ _ rfl) hyy) hd hX (Z2i (Zyv hyy e2)) trivial h
  ·exact h.elim
 ·exact h.elim
theorem Zff {ρ:Type}:∀ (g:Nat) {t:T} {x:V} {k:t.den→Ev ρ} {l:Lo} {Post:ρ→Fr→Lo→Prop},Zj n (conv g t x k) f l Post→x.isAgg=t.agg
 | 0,_,_,_,_,_,h=>h.elim
 | g+1,t,x,k,l,Post,h=>by
  cases x with
  | data s x =>
   simp only[conv]at h
   split at h
   ·rename_i y hy
    obtain⟨e,_⟩:=Z2 hy
    subst e;rfl
   ·split at h
    ·rfl
    ·rfl
    ·rfl
    ·rfl
    ·rfl
    ·rfl
    ·split at h
     ·rename_i c hc
      have h1:=Zff g (x:=.agg c) h
      have h2:s.agg=true:=by
       unfold Zue at hc;split at hc <;> first | rfl | cases hc
      exact h2.trans h1
     ·exact h.elim
  | nilS =>
   simp only[conv]at h;split at h <;> first | rfl | exact h.elim
  | own u =>
   simp only[conv]at h;obtain⟨e,he,h⟩:=h;obtain⟨kk,st,L⟩:=e
   cases L with
   | box _ _=>exact h.elim
   | mid _ _ _ _ _ _=>exact h.elim
   | mp _ =>
    simp only at h;split at h <;> first | rfl | exact h.elim
   | lst _ _ _ _ =>
    simp only at h;split at h <;> first | rfl | exact h.elim
   | it _ _=>exact h.elim
   | own ty s xs fz =>
    cases fz with
    | true=>exact Zff g (x:=.data (.slice s) xs) h
    | false=>exact Zff g (x:=.data (.slice s) xs) h
   | mat ty _ s m _=>exact Zff g (x:=.data (.slice (.slice s)) m) h
  | agg c =>
   cases c with
   | cons x1 c =>
    cases c with
    | cons x2 r=>simp only[conv]at h;split at h <;> first | rfl | exact h.elim
    | nl=>simp only[conv]at h;split at h <;> first | rfl | exact h.elim
    | _=>simp only[conv]at h;exact h.elim
   | _=>simp only[conv]at h;exact h.elim
  | ptr u o =>
   cases o with
   | succ _=>simp only[conv]at h;exact h.elim
   | zero=>simp only[conv]at h;split at h <;> first | rfl | exact h.elim
  | _=>simp only[conv]at h;exact h.elim
theorem Ztq {x:V} {t:T} {cs:List Value} (h:x.isAgg=t.agg):x.val cs=t.rep.val cs:=by
 unfold V.val Rep.val;rw[h,Zvq]
 cases t.agg <;> rfl
theorem Zgk {v v':Zb} (h:v.le v'):∀ {ts:List T} {vals:List Value} {x:ZC ts},ZJa v ts vals x→ZJa v' ts vals x
 | [],_,_,k=>k
 | [_],_,_,⟨cs,h1,h2⟩=>⟨cs,h1,Rep.mono _ h h2⟩
 | _ :: _ :: _,_,_,⟨cs,vs,h1,h2,h3⟩=>⟨cs,vs,h1,Rep.mono _ h h2,Zgk h h3⟩
theorem Zae {ρ:Type} (hn:¬ U n) (hX:X n):∀ {ts:List T} {c:V} {k:ZC ts→Ev ρ} {l:Lo} {γ:Nat→Gh} {v:Zb} {ℓ:List Loc} {Post:ρ→Fr→Lo→Prop},Zj n (ZOc ts c k) f l Post→RelX N G w0 v0 U X f l a w γ v ℓ→c.ok U →
  ∃ x l' γ' v' ℓ',Zj n (k x) f l' Post∧RelX N G w0 v0 U X f l' a w γ' v' ℓ'∧Le U v γ l v' γ' l'∧∀ vals,RR v γ l true c vals→ZJa v' ts vals x
 | [],c,k,l,γ,v,ℓ,Post,h,hr,hk=>by
  obtain⟨E,hE,_⟩:=hr.lr
  cases c with
  | nl=>exact⟨(),l,γ,v,ℓ,h,hr,Le.refl hE (Zb.le_refl _),λvals hv=>hv⟩
  | _=>exact h.elim
 | [t],c,k,l,γ,v,ℓ,Post,h,hr,hk=>by
  cases c with
  | cons x c =>
   cases c with
   | nl =>
    have hag:=Zff FU (n:=n) (f:=f) (l:=l) (t:=t) (x:=x) h
    obtain⟨y,l1,γ1,v1,ℓ1,h,r1,le1,q1⟩:=ZSc hn hX FU h hr hk.1
    refine⟨y,l1,γ1,v1,ℓ1,h,r1,le1,λvals hv=>?_⟩
    obtain⟨cs,vs,rfl,h1,h2⟩:=hv
    have h2:vs=[]:=h2
    subst h2
    exact⟨cs,by rw[Ztq hag],q1 _ h1⟩
   | _=>exact h.elim
  | _=>exact h.elim
 | t :: u :: r,c,k,l,γ,v,ℓ,Post,h,hr,hk=>by
  cases c with
  | cons x c =>
   have h':Zj n (conv FU t x λx=>ZOc (u :: r) c λy=>k (x,y)) f l Post:=by
    cases c <;> exact h
   have hag:=Zff FU (n:=n) (f:=f) (l:=l) (t:=t) (x:=x) h';obtain⟨y,l1,γ1,v1,ℓ1,h1,r1,le1,q1⟩:=ZSc hn hX FU h' hr hk.1;obtain⟨ys,l2,γ2,v2,ℓ2,h2,r2,le2,q2⟩:=Zae hn hX h1 r1 hk.2;refine⟨(y,ys),l2,γ2,v2,ℓ2,h2,r2,le1.trans le2,λvals hv=>?_⟩;obtain⟨cs,vs,rfl,h3,h4⟩:=hv;exact⟨cs,vs,by rw[Ztq hag],Rep.mono _ le2.v (q1 _ h3),q2 _ (ZAa le1 hk.2 h4)⟩
  | _=>exact h.elim
theorem Zsl {v:Zb}:∀ {ts:List T} {vals:List Value} {x:ZC ts},ZJa v ts vals x→RR v γ l true (ZCc ts x) vals∧(ZCc ts x).ok U
 | [],_,_,h=>⟨h,trivial⟩
 | [t],_,x,⟨cs,h1,h2⟩=>⟨⟨cs,[],by rw[h1];exact congrArg (λz=>[z]) (Zjg (t:=t) (x:=x) (cs:=cs)).symm,h2,rfl⟩,trivial,trivial⟩
 | t :: u :: r,_,x,⟨cs,vs,h1,h2,h3⟩=>by
  obtain⟨k1,k2⟩:=Zsl h3
  exact⟨⟨cs,vs,by rw[h1];exact congrArg (· :: vs) (Zjg (t:=t) (x:=x.1) (cs:=cs)).symm,h2,k1⟩,trivial,k2⟩
theorem Zij {v:Zb} {ts:List T} {y:Value} {z:ZC ts} (h:Z4c v ts y z):RV v γ l (ZLc (ZCc ts z)) y∧(ZLc (ZCc ts z)).ok U:=by
 match ts,z,h with
 | [],z,⟨vals,h1,h2⟩=>exact⟨⟨vals,h2,h1⟩,trivial⟩
 | [t],z,⟨cs,h1,h2⟩=>exact⟨⟨cs,h2,by rw[h1];exact (Zjg (t:=t) (x:=z) (cs:=cs)).symm⟩,trivial⟩
 | t :: u :: r,z,⟨vals,h1,h2⟩ =>
  obtain⟨k1,k2⟩:=Zsl (γ:=γ) (l:=l) (U:=U) h2
  cases r <;> exact⟨⟨vals,k1,h1⟩,k2⟩
theorem ZXp {σ:List (Nat×Value)} (hS:St N w0 v0 σ ℓ v a w) {x:Operand} {m:String} {f:FuncId} {xs:Array Operand} {ats:Array TypeId} {t:TypeId} {y:Value} (vals:List Value) (hm:∀ w,(method (P.types.size+Made.depth) t y m).run P w = .ok (f,y) w) (e:ev σ x=some (.iface t y))
  (h:xs.toList.map (ev σ)=vals.map some) {r:Go.Next} (hf:(callFunc f (y :: vals).toArray).run P w = .ok r w):(execOp a.eval ⟨d,.call ⟨.invoke x m,xs,ats⟩,ty,pos,aft,g⟩).run P w = .ok r w:=by
 have hx:xs.map a.eval=vals.toArray:=by
  apply Array.ext';rw[Array.toList_map];generalize xs.toList=l at h;clear hf
  induction l generalizing vals with
  | nil=>cases vals <;> simp_all
  | cons y l ih =>
   cases vals with
   | nil=>simp at h
   | cons u vals =>
    simp at h;simp[hS.eval h.1,ih vals h.2]
 simp[execOp,resolve,invoke,callMethod,hx,hS.eval e,hm,hf]
theorem Zyl (hr:RelX N G w0 v0 U X f l a w γ v ℓ) (hU:∀ k,U k→X k) (hX:X n) (hn:¬ U n) {e:TypeId} {s:T} {xs:List s.den} {o:Oper} {ob:Option Nat} {cap:Nat} {cs:List Value} {Post:Unit→Fr→Lo→Prop} (hd:∀ k,o.dst=some k→k<N)
  (hst:St N w0 v0 [] (.own ob e s.n xs.length cap cs :: ℓ) v a w) (hc:s.rep.rels v cs xs) (h:Zj n (Ev.new n (.own e s xs false) (ret o (.own n))) f l Post):∃ f' l',Post () f' l'∧Rel N G w0 v0 X f' l' (a.put o.dst (.slice (mkA ob) xs.length cap)) w:=by
 obtain⟨hnew,h⟩:=h;obtain⟨E,hE,hpm⟩:=hr.lr;have hr':=hr.new (γ':=ZPa γ n (.own ob cap)) (L':=.own e s xs false) hX hX hn hnew hE (hst.perm (List.Perm.cons _ hpm)) (Zb.le_refl _) (λ_ h=>Z9a h) ⟨ob,cap,cs,Zla,hc,rfl⟩ (List.Perm.refl _) trivial;unfold ret at h
 cases hdd:o.dst with
 | none=>rw[hdd]at h;exact h.elim
 | some d =>
  rw[hdd]at h;refine⟨_,_,h,_,_,_,(hr'.mono hU λ_ h=>h).put (hd d hdd) (x:=.own n) ⟨[_],⟨_,rfl,by cases ob <;> rfl,λe' he'=>?_⟩,rfl⟩ hX hX⟩;rw[ZL,iP rfl]at he';cases he';exact⟨_,_,Zla,rfl⟩
theorem Z2y (hr:RelX N G w0 v0 U X f l a w γ v ℓ) (hU:∀ k,U k→X k) (hX:X n) (hn:¬ U n) {e:TypeId} {s:T} {xs:List s.den} {res:List T} {z2:ZC res} {rest:List Value} {o:Oper} {ob:Option Nat} {cap:Nat} {cs:List Value} {Post:Unit→Fr→Lo→Prop} (hd:∀ k,o.dst=some k→k<N)
  (hst:St N w0 v0 [] (.own ob e s.n xs.length cap cs :: ℓ) v a w) (hc:s.rep.rels v cs xs) (hrest:ZJa v res rest z2) (h:Zj n (Ev.new n (.own e s xs false) (ret o (.tup (.cons (.own n) (ZCc res z2))))) f l Post):∃ f' l',Post () f' l'∧Rel N G w0 v0 X f' l' (a.put o.dst (.tuple (.slice (mkA ob) xs.length cap :: rest).toArray)) w:=by
 obtain⟨hnew,h⟩:=h;obtain⟨E,hE,hpm⟩:=hr.lr;have hr':=hr.new (γ':=ZPa γ n (.own ob cap)) (L':=.own e s xs false) hX hX hn hnew hE (hst.perm (List.Perm.cons _ hpm)) (Zb.le_refl _) (λ_ h=>Z9a h) ⟨ob,cap,cs,Zla,hc,rfl⟩ (List.Perm.refl _) trivial;unfold ret at h
 cases hdd:o.dst with
 | none=>rw[hdd]at h;exact h.elim
 | some d =>
  rw[hdd]at h;obtain⟨k1,k2⟩:=Zsl (γ:=ZPa γ n (.own ob cap)) (l:=⟨n,n,LV.own e s xs false⟩ :: l) (U:=X) hrest;refine⟨_,_,h,_,_,_,(hr'.mono hU λ_ h=>h).put (hd d hdd) (x:=.tup (.cons (.own n) (ZCc res z2))) ⟨_ :: rest,⟨[_],rest,rfl,⟨_,rfl,by cases ob <;> rfl,λe' he'=>?_⟩,k1⟩,rfl⟩ ⟨hX,k2⟩ hX⟩;rw[ZL,iP rfl]at he';cases he';exact⟨_,_,Zla,rfl⟩
theorem St.addL {K:Nat} {w0:Base} {v0:Zb} {σ:List (Nat×Value)} {ℓ es:List Loc} {v:Zb} {a:Act} {w:World} {s:Nat} (h:St K w0 v0 σ ℓ v a w) (hs:w0.wd.heap.size≤s) (hnew:∀ x ∈ es,x.holds w∧∀ b,x.blk=some b→s≤b∧v b=none) (hnd:(es.filterMap Loc.blk).Nodup) (hold:∀ x ∈ ℓ,∀ b,x.blk=some b→b<s):St K w0 v0 σ (es++ℓ) v a w:=by
 refine⟨h.size,h.dfr,h.fr,h.ext,h.vst,λx hx=>?_,?_⟩
 ·rcases List.mem_append.1 hx with hx | hx
  ·exact⟨(hnew x hx).1,λb eb=>⟨.inl (Nat.le_trans hs ((hnew x hx).2 b eb).1),((hnew x hx).2 b eb).2⟩⟩
  ·exact h.loc x hx
 ·rw[List.filterMap_append];refine List.nodup_append.2 ⟨hnd,h.nd,λb hb b' hb' e=>?_⟩;subst e;obtain⟨x,hx,hxb⟩:=List.mem_filterMap.1 hb;obtain⟨y,hy,hyb⟩:=List.mem_filterMap.1 hb';have h1:=((hnew x hx).2 b hxb).1;have h2:=hold y hy b hyb;omega
theorem put_mat (hr:RelX N G w0 v0 U X f l a w γ v ℓ) (hU:∀ k,U k→X k) (hX:X n) (hn:¬ U n) {ty ty2:TypeId} {t:T} {m:List (List t.den)} {o:Oper} {ob:Option Nat} {cap:Nat} {rows:List (Option Nat×Nat)} {es:List Loc} {Post:Unit→Fr→Lo→Prop} (hd:∀ k,o.dst=some k→k<N)
  (hst:St N w0 v0 [] ((.own ob ty 1 m.length cap (Zq rows m) :: es)++ℓ) v a w) (hc:Zra v ty2 t rows m es) (h:Zj n (Ev.new n (.mat ty ty2 t m n) (ret o (.own n))) f l Post):∃ f' l',Post () f' l'∧Rel N G w0 v0 X f' l' (a.put o.dst (.slice (mkA ob) m.length cap)) w:=by
 obtain⟨hnew,h⟩:=h;obtain⟨E,hE,hpm⟩:=hr.lr;have hr':=hr.new (γ':=ZPa γ n (.mat ob cap rows)) (L':=.mat ty ty2 t m n) (es':=.own ob ty 1 m.length cap (Zq rows m) :: es) hX hX hn hnew hE (hst.perm (List.Perm.append_left _ hpm)) (Zb.le_refl _) (λ_ h=>Z9a h) ⟨ob,cap,rows,es,Zla,hc,rfl⟩ (List.Perm.refl _) hX;unfold ret at h
 cases hdd:o.dst with
 | none=>rw[hdd]at h;exact h.elim
 | some d =>
  rw[hdd]at h;refine⟨_,_,h,_,_,_,(hr'.mono hU λ_ h=>h).put (hd d hdd) (x:=.own n) ⟨[_],⟨_,rfl,by cases ob <;> rfl,λe' he'=>?_⟩,rfl⟩ hX hX⟩;rw[ZL,iP rfl]at he';cases he';exact⟨_,_,_,Zla,rfl⟩
theorem ZQo {c:ConI} {fid:FuncId} (hI:ZXj P fid c) (hr:RelX N G w0 v0 U X f l a w γ v ℓ) (hU:∀ k,U k→X k) (hX:X n) (hn:¬ U n) {o:Oper} {Post:Unit→Fr→Lo→Prop} (hd:∀ k,o.dst=some k→k<N) {ob:Option Nat} {cap:Nat} {cs:List Value} {xs:List c.t.den} {i:Int} {bv kv:Nat} {c0:Array Value} {x:c.t.den} {z:List c.t.den}
  (hst:St N w0 v0 [] (.own ob c.ty c.t.n xs.length cap cs :: ℓ) v a w) (hA:c.t.rep.rels v cs xs) (hkv:1≤kv) (hbv:v bv=some (.cells c0 c.ty (0,0))) (hx:c.t.rep.rel v (c0.toList.take c.t.n) x) (hi:inR .i64 i) (hz:c.F xs i x=some z)
  (hent:ZF P fid→(execOp a.eval o).run P w = .ok (.enter fid #[.slice (mkA ob) xs.length cap,.int .i64 i,.slice (some ⟨bv,0,none⟩) 1 kv]) w) (h:Zj n (Ev.new n (.own c.ty c.t z false) (ret o (.own n))) f l Post):Z8 P N G w0 v0 X o a w Post:=by
 obtain⟨hh,hb⟩:=hst.loc _ List.mem_cons_self;obtain⟨hen,hret⟩:=hI w v ob xs.length cap cs xs i bv kv c0 x z hst.vin hh (λb e=>(hb b e).2) hA rfl hkv hbv hx hi hz;refine ZXc (hent hen) (Calls.mono hret λe w' ⟨r,v',e1,e2,e3,e4⟩=>⟨r,e1,?_⟩);obtain⟨ob',n',cap',cs',rfl,hh',hb',hA',hn'⟩:=e4;subst hn';have hS:=hst.afterI (i:=0) (e':=.own ob' c.ty c.t.n z.length cap' cs') rfl e2 e3 hh' λb hb=>by
  obtain⟨q1,q2⟩:=hb' b hb;exact⟨q1,q2⟩
 have hS:St N w0 v0 [] (.own ob' c.ty c.t.n z.length cap' cs' :: ℓ) v' a w':=hS;exact Zyl (hr.go e3.le (hS.drop (List.sublist_cons_self _ _))) hU hX hn hd hS hA' h
theorem ZZu {c:ConD} {fid:FuncId} (hI:ZAi P fid c) (hr:RelX N G w0 v0 U X f l a w γ v ℓ) (hU:∀ k,U k→X k) (hX:X n) (hn:¬ U n) {o:Oper} {Post:Unit→Fr→Lo→Prop} (hd:∀ k,o.dst=some k→k<N) {ob:Option Nat} {cap:Nat} {cs:List Value} {xs:List c.t.den} {i j:Int} {z:List c.t.den}
  (hst:St N w0 v0 [] (.own ob c.ty c.t.n xs.length cap cs :: ℓ) v a w) (hA:c.t.rep.rels v cs xs) (hi:inR .i64 i) (hj:inR .i64 j) (hz:c.F xs i j=some z)
  (hent:ZF P fid→(execOp a.eval o).run P w = .ok (.enter fid #[.slice (mkA ob) xs.length cap,.int .i64 i,.int .i64 j]) w) (h:Zj n (Ev.new n (.own c.ty c.t z false) (ret o (.own n))) f l Post):Z8 P N G w0 v0 X o a w Post:=by
 obtain⟨hh,hb⟩:=hst.loc _ List.mem_cons_self;obtain⟨hen,hret⟩:=hI w v ob xs.length cap cs xs i j z hst.vin hh (λb e=>(hb b e).2) hA rfl hi hj hz;refine ZXc (hent hen) (Calls.mono hret λe w' ⟨r,v',e1,e2,e3,e4⟩=>⟨r,e1,?_⟩);obtain⟨ob',n',cap',cs',rfl,hh',hb',hA',hn'⟩:=e4;subst hn';have hS:=hst.afterI (i:=0) (e':=.own ob' c.ty c.t.n z.length cap' cs') rfl e2 e3 hh' λb hb=>by
  obtain⟨q1,q2⟩:=hb' b hb;exact⟨q1,q2⟩
 have hS:St N w0 v0 [] (.own ob' c.ty c.t.n z.length cap' cs' :: ℓ) v' a w':=hS;exact Zyl (hr.go e3.le (hS.drop (List.sublist_cons_self _ _))) hU hX hn hd hS hA' h
theorem Zcp {C:Cf} (hC:CfOK C) (hr:RelX N G w0 v0 U X f l a w γ v ℓ) (hU:∀ k,U k→X k) (hX:X n) (hn:¬ U n) {fid:FuncId} {c:V} {vals:List Value} {o:Oper} {Post:Unit→Fr→Lo→Prop} (hd:∀ k,o.dst=some k→k<N)
  (hent:ZF C.P fid→(execOp a.eval o).run C.P w = .ok (.enter fid vals.toArray) w) (hval:∀ y,(∀ w,(callFunc fid vals.toArray).run C.P w = .ok (.value y) w)→(execOp a.eval o).run C.P w = .ok (.value y) w)
  (hc:RR v γ l true c vals) (hk:c.ok U) (h:Zj n (ZVj C n o fid c) f l Post):Z8 C.P N G w0 v0 X o a w Post:=by
 unfold ZVj at h;split at h
 ·rename_i con hcon;obtain⟨p,l1,γ1,v1,ℓ1,h,r1,le1,q1⟩:=Zae hn hX h hr hk;obtain⟨z,hz,h⟩:=h;have hR:=q1 _ hc;rcases hC.c fid con hcon w v1 _ p z r1.st.vin hR hz with ⟨hen,hret⟩ | ⟨y,hv,hres⟩
  ·refine ZXc (hent hen) (Calls.mono hret λe w' ⟨r,v',e1,e2,e3,e4⟩=>⟨r,e1,?_⟩);have r2:=r1.go e3.le (r1.st.step e2 e3);obtain⟨k1,k2⟩:=Zij (γ:=γ1) (l:=l1) (U:=X) e4;unfold ret at h
   cases hdd:o.dst with
   | none=>rw[hdd]at h;exact h.elim
   | some dd =>
    rw[hdd]at h;exact⟨_,_,h,_,_,_,(r2.mono hU λ_ h=>h).put (hd dd hdd) k1 k2 hX⟩
  ·obtain⟨k1,k2⟩:=Zij (γ:=γ1) (l:=l1) (U:=X) hres;exact ZZ r1 hU (hval y hv) hd hX k1 k2 h
 ·split at h
  ·rename_i con hcon;obtain⟨p,l1,γ1,v1,ℓ1,h,r1,le1,q1⟩:=Zae hn hX h hr hk;obtain⟨z,hz,h⟩:=h;have hR:=q1 _ hc;obtain⟨hen,hret⟩:=hC.o fid con hcon w v1 _ p z r1.st.vin hR hz;refine ZXc (hent hen) (Calls.mono hret λe w' ⟨r,v',e1,e2,e3,e4⟩=>⟨r,e1,?_⟩);obtain⟨ob,n',cap,cs,rfl,hh,hb,hA,hn'⟩:=e4;subst hn';have h':=r1.st.step e2 e3;refine Zyl (r1.go e3.le h') hU hX hn hd (cs:=cs) ⟨h'.size,h'.dfr,h'.fr,h'.ext,h'.vst,λx hx=>?_,?_⟩ hA h
   ·rcases List.mem_cons.1 hx with rfl | hx
    ·exact⟨hh,λb eb=>⟨.inl (Nat.le_trans r1.st.ext.size (hb b eb).1),(hb b eb).2⟩⟩
    ·exact h'.loc x hx
   ·cases ob with
    | none=>rw[List.filterMap_cons_none (show (Loc.own none con.ty con.t.n z.length cap cs).blk=none from rfl)];exact h'.nd
    | some b =>
     rw[List.filterMap_cons_some (show (Loc.own (some b) con.ty con.t.n z.length cap cs).blk=some b from rfl)];refine List.nodup_cons.2 ⟨λhm=>?_,h'.nd⟩;obtain⟨x,hx,hxb⟩:=List.mem_filterMap.1 hm;obtain⟨_,hg⟩:=Loc.blk_get (r1.st.loc x hx).1 hxb;have h1:=Z5b hg;have h2:=(hb b rfl).1;omega
  ·split at h
   ·rename_i con hcon;have hI:=hC.i fid con hcon;unfold insE at h;split at h
    ·rename_i A i u2;obtain⟨cA,xs1,rfl,hA1,xs2,xs3,rfl,hI1,xs4,xs5,rfl,hU2,hnl⟩:=hc;have hnl:xs5=[]:=hnl;subst hnl;obtain⟨e2,he2,h⟩:=h;obtain⟨k2,st2,L2⟩:=e2;have hk2:k2=u2:=(Zk he2).2;subst hk2
     cases L2 with
     | own ty2 s2 l2 fz =>
      cases fz with
      | true=>exact h.elim
      | false =>
       simp only at h;split at h
       ·rename_i x hty hcast;have hty:=eQ hty;subst hty;obtain⟨c3,c4⟩:=Z2 hcast;obtain⟨es2,E2,g1,_,_,g3,r1⟩:=hr.del he2;obtain⟨ob2,cap2,cs2,g4,g5,rfl⟩:=g1;have g4:γ k2 = .own ob2 cap2:=g4;obtain⟨y2,rfl,_,hy2⟩:=hU2;obtain⟨ob2',cap2',g6,g7⟩:=hy2 _ he2;rw[g4]at g6;cases g6;have hst2:=hr.st.perm g3;obtain⟨hh2,hb2⟩:=hst2.loc _ List.mem_cons_self;have hc3:s2=con.t:=by injection c3
        subst hc3;have hl2:l2=[x]:=c4;subst hl2
        cases ob2 with
        | none=>obtain⟨q,_⟩:=hh2;cases q
        | some bv =>
         obtain⟨hl,cur,hg,hle,_,hcz,htk⟩:=hh2;obtain⟨v1,hv1,hv2,hst3⟩:=hst2.publish (i:=0) (ℓ':=E2.flatten) rfl rfl hg rfl;have r2:=r1.go hv1 hst3;have hx1:con.t.rep.rel v1 (cur.toList.take con.t.n) x:=by
          have hq:con.t.rep.rels v1 cs2 [x]:=ZR hv1 g5;obtain⟨d1,d2,e1,e2,e3⟩:=hq;have e3:d2=[]:=e3;subst e3;rw[List.append_nil]at e1;subst e1;have:cur.toList.take ([x].length*con.t.n)=cs2:=htk;rw[show [x].length*con.t.n=con.t.n by simp]at this;rw[this];exact e2
         have hi:inR .i64 i:=by obtain⟨_,q⟩:=hI1;exact q
         have hiv:(V.data (.int .i64) i).val xs2 = .int .i64 i:=by obtain⟨q,_⟩:=hI1;subst q;rfl
         have hle0:=Le.era hr k2;have lv:Le U v γ l v1 γ (era l k2):=hle0.trans (by obtain⟨EE,hEE,_⟩:=r1.lr;exact Le.refl hEE hv1)
         cases A with
         | own u =>
          simp only at h;obtain⟨e,he,h⟩:=h;obtain⟨k,st,L⟩:=e;have hkk:k=u:=(Zk he).2;subst hkk
          cases L with
          | own ty s xs fz =>
           cases fz with
           | true=>exact h.elim
           | false =>
            simp only at h;split at h
            ·rename_i l' hty hcast;have hty:=eQ hty;subst hty;obtain⟨c5,c6⟩:=Z2 hcast;have hc5:s=con.t:=by injection c5
             subst hc5;have hl':xs=l':=c6;subst hl';obtain⟨z,hz,h⟩:=h;obtain⟨es,E3,d1,_,_,d3,r3⟩:=r2.del he;obtain⟨ob,cap,cs,d4,d5,rfl⟩:=d1;have d4:γ k = .own ob cap:=d4;have hA2:=ZAa lv (x:=.own k) hk.1 hA1;obtain⟨y,rfl,_,hy⟩:=hA2;obtain⟨ob',cap',d6,d7⟩:=hy _ he;rw[d4]at d6;cases d6;refine ZQo hI r3 hU hX hn hd (hst3.perm d3) d5 (kv:=cap2) (by simpa using hle) hv2 hx1 hi hz (λhen=>?_) h;rw[hent hen,ZJf (x:=.own k) rfl,d7,hiv,ZJf (x:=.own k2) rfl,g7];rfl
            ·exact h.elim
          | box _ _=>exact h.elim
          | mid _ _ _ _ _ _=>exact h.elim
          | mp _=>exact h.elim
          | it _ _=>exact h.elim
          | lst _ _ _ _=>exact h.elim
          | mat _ _ _ _ _=>exact h.elim
         | nilS =>
          simp only at h;obtain⟨z,hz,h⟩:=h;have hA1:cA=[.slice none 0 0]:=hA1;subst hA1;refine ZQo hI r2 hU hX hn hd (ob:=none) (cap:=0) (cs:=[]) (xs:=[]) (hst3.nilLoc con.ty con.t.n) rfl (kv:=cap2) (by simpa using hle) hv2 hx1 hi hz (λhen=>?_) h;rw[hent hen,hiv,ZJf (x:=.own k2) rfl,g7];rfl
         | _=>exact h.elim
       ·exact h.elim
     | box _ _=>exact h.elim
     | mid _ _ _ _ _ _=>exact h.elim
     | mp _=>exact h.elim
     | it _ _=>exact h.elim
     | lst _ _ _ _=>exact h.elim
     | mat _ _ _ _ _=>exact h.elim
    ·exact h.elim
   ·split at h
    ·rename_i con hcon;obtain⟨p,l1,γ1,v1,ℓ1,h,r1,le1,q1⟩:=Zae hn hX h hr hk;obtain⟨z,hz,h⟩:=h;have hR:=q1 _ hc;obtain⟨hen,hret⟩:=hC.q fid con hcon w v1 _ p z r1.st.vin hR hz;refine ZXc (hent hen) (Calls.mono hret λe w' ⟨r,v',e1,e2,e3,e4⟩=>⟨r,e1,?_⟩);obtain⟨ob,cap,rows,es,rfl,hA,hh,hb⟩:=e4;have h':=r1.st.step e2 e3;refine put_mat (r1.go e3.le h') hU hX hn hd (h'.addL r1.st.ext.size hh hb λx hx b hxb=>?_) hA h;obtain⟨_,hg⟩:=Loc.blk_get (r1.st.loc x hx).1 hxb;exact Z5b hg
    ·split at h
     ·rename_i con hcon;have hI:=hC.d fid con hcon;unfold delE at h;split at h
      ·rename_i u i j;obtain⟨cA,x1,rfl,hA,cI,x2,rfl,hI1,cJ,x3,rfl,hJ,hnl⟩:=hc;have hnl:x3=[]:=hnl;subst hnl;obtain⟨e,he,h⟩:=h;obtain⟨kk,st,L⟩:=e;have hkk:kk=u:=(Zk he).2;subst hkk
       cases L with
       | own ty s xs fz =>
        cases fz with
        | true=>exact h.elim
        | false =>
         simp only at h;split at h
         ·rename_i ys hty hcast;have hty:=eQ hty;subst hty;obtain⟨c5,c6⟩:=Z2 hcast;have hc5:s=con.t:=by injection c5
          subst hc5;have hl':xs=ys:=c6;subst hl';obtain⟨z,hz,h⟩:=h;obtain⟨es,E',h1,_,h2,h3,r1⟩:=hr.del he;obtain⟨ob,cap,cs,g1,g2,rfl⟩:=h1;have g1:γ kk = .own ob cap:=g1;obtain⟨y,rfl,_,hy⟩:=hA;obtain⟨ob',cap',g3,g4⟩:=hy _ he;rw[g1]at g3;cases g3;have hi:inR .i64 i:=by obtain⟨_,q⟩:=hI1;exact q
          have hiv:(V.data (.int .i64) i).val cI = .int .i64 i:=by obtain⟨q,_⟩:=hI1;subst q;rfl
          have hj:inR .i64 j:=by obtain⟨_,q⟩:=hJ;exact q
          have hjv:(V.data (.int .i64) j).val cJ = .int .i64 j:=by obtain⟨q,_⟩:=hJ;subst q;rfl
          refine ZZu hI r1 hU hX hn hd (hr.st.perm h3) g2 hi hj hz (λhen=>?_) h;rw[hent hen,ZJf (x:=.own kk) rfl,g4,hiv,hjv]
         ·exact h.elim
       | box _ _=>exact h.elim
       | mid _ _ _ _ _ _=>exact h.elim
       | mp _=>exact h.elim
       | it _ _=>exact h.elim
       | lst _ _ _ _=>exact h.elim
       | mat _ _ _ _ _=>exact h.elim
      ·exact h.elim
     ·split at h
      ·rename_i con hcon;obtain⟨p,l1,γ1,v1,ℓ1,h,r1,le1,q1⟩:=Zae hn hX h hr hk;obtain⟨z,hz,h⟩:=h;have hR:=q1 _ hc;obtain⟨hen,hret⟩:=hC.p fid con hcon w v1 _ p z r1.st.vin hR hz;refine ZXc (hent hen) (Calls.mono hret λe w' ⟨r,v',e1,e2,e3,e4⟩=>⟨r,e1,?_⟩);obtain⟨r0,rest,rfl,⟨ob,n',cap,cs,rfl,hh,hb,hA,hn'⟩,hrest⟩:=e4;subst hn';have h':=r1.st.step e2 e3;refine Z2y (r1.go e3.le h') hU hX hn hd (cs:=cs) ⟨h'.size,h'.dfr,h'.fr,h'.ext,h'.vst,λx hx=>?_,?_⟩ hA hrest h
       ·rcases List.mem_cons.1 hx with rfl | hx
        ·exact⟨hh,λb eb=>⟨.inl (Nat.le_trans r1.st.ext.size (hb b eb).1),(hb b eb).2⟩⟩
        ·exact h'.loc x hx
       ·cases ob with
        | none=>rw[List.filterMap_cons_none (show (Loc.own none con.ty con.t.n z.1.length cap cs).blk=none from rfl)];exact h'.nd
        | some b =>
         rw[List.filterMap_cons_some (show (Loc.own (some b) con.ty con.t.n z.1.length cap cs).blk=some b from rfl)];refine List.nodup_cons.2 ⟨λhm=>?_,h'.nd⟩;obtain⟨x,hx,hxb⟩:=List.mem_filterMap.1 hm;obtain⟨_,hg⟩:=Loc.blk_get (r1.st.loc x hx).1 hxb;have h1:=Z5b hg;have h2:=(hb b rfl).1;omega
      ·exact h.elim
theorem Zho:∀ {c:V} {i:Nat} {z:V} {vals:List Value},nthV c i=some z→RR v γ l true c vals→c.ok U→∃ y,vals[i]? = some y∧RV v γ l z y∧z.ok U
 | .cons x c,0,z,vals,h,hr,hk=>by
  cases h
  obtain⟨cs,xs,rfl,h1,h2⟩:=hr
  exact⟨_,rfl,ZYb h1 (λc e=>by subst e;exact h1),hk.1⟩
 | .cons x c,i+1,z,vals,h,hr,hk=>by
  obtain⟨cs,xs,rfl,h1,h2⟩:=hr
  obtain⟨y,k1,k2,k3⟩:=Zho (c:=c) h h2 hk.2
  exact⟨y,by simpa using k1,k2,k3⟩
theorem RelX.slot (h:RelX N G w0 v0 U X f l a w γ v ℓ) {t m:Nat} {z:V} (hr:RV v γ l z (a.tmps.getD t undef)) (hk:z.ok U) (hX:X m):RelX N G w0 v0 U X (⟨t,m,z⟩ :: f) l a w γ v ℓ:=by
 refine⟨h.st,λt' e' he'=>?_,h.lr,h.nd,λt' e' he'=>?_,h.ul,h.gh⟩
 ·rw[ZL]at he';split at he'
  ·rename_i hk'
   cases he'
   have hk':t=t':=hk';rw[← hk'];exact hr
  ·exact h.fr t' e' he'
 ·rw[ZL]at he';split at he'
  ·cases he';exact⟨hk,hX⟩
  ·exact h.uf t' e' he'
theorem Zhv {σ:List (Nat×Value)} (hS:St N w0 v0 σ ℓ v a w) {t e:TypeId} {n b:Nat} {i:TypeInfo} {x:Operand} (ht:P.underlying t=some (.array n e)) (hi:P.info? e=some i) (e1:ev σ x=some (.pointer (some ⟨b,0,none⟩))) :
  (execOp a.eval ⟨d,.slice t x none none none,ty,pos,aft,g⟩).run P w = .ok (.value (.slice (some ⟨b,0,none⟩) n n)) w:=by
 have h2:∀ w,(underlying t).run P w = .ok (.array n e) w:=λw=>run_underlying ht w;have h3:∀ w,(sizeOf e).run P w = .ok i.size w:=λw=>by simp[sizeOf,typeInfo,hi]
 by_cases hn:n=0
 ·subst hn;simp[execOp,Instr.sliceAt,Instr.sureAddr,hS.eval e1,h2,h3,Instr.sliceBounds,ZLb]
 ·simp[execOp,Instr.sliceAt,Instr.sureAddr,hS.eval e1,h2,h3,Instr.sliceBounds,ZLb]
theorem arrE_ok {C:Cf} (hr:RelX N G w0 v0 U X f l a w γ v ℓ) (hU:∀ k,U k→X k) (hX:X n) (hn:¬ U n) {t:TypeId} {s u off:Nat} {lo hi:Option Operand} {i j:Option Int} {o:Oper} {Post:Unit→Fr→Lo→Prop} (ho:o=⟨d,.slice t (.tmp s) lo hi none,ty,pos,aft,g⟩) (hd:∀ k,o.dst=some k→k<N) (hp:RV v γ l (.ptr u off) (a.eval (.tmp s))) (hk:U u)
  (hlo:(lo=none∧i=none) ∨ ∃ y κ q,lo=some y∧i=some q∧a.eval y = .int κ q) (hhi:(hi=none∧j=none) ∨ ∃ y κ q,hi=some y∧j=some q∧a.eval y = .int κ q) (h:Zj n (arrE C o t s u off i j) f l Post):Z8 C.P N G w0 v0 X o a w Post:=by
 unfold arrE at h;split at h
 ·rename_i m e h0 hu;have h0:=eQ h0;subst h0;have hlo:lo=none:=by
   rcases hlo with h1 | ⟨_,_,_,_,h1,_⟩
   ·exact h1.1
   ·cases h1
  have hhi:hi=none:=by
   rcases hhi with h1 | ⟨_,_,_,_,h1,_⟩
   ·exact h1.1
   ·cases h1
  subst hlo hhi;split at h
  ·rename_i α q hα hq hm0 hm1;have hm0:1≤m:=lB hm0;have hm1:=lB hm1;split at h
   ·obtain⟨⟨k0,st0,L⟩,he,h⟩:=h;have hkk:k0=u:=(Zk he).2;subst hkk
    cases L with
    | box ty0 c =>
     simp only at h;obtain⟨y,hy0,_,hy⟩:=Z6 hp (λ_ e=>by cases e) rfl rfl;have hy0:a.eval (.tmp s)=y:=(List.cons.inj hy0).1;obtain⟨b,g1,rfl⟩:=hy _ he;obtain⟨es,E',h1,_,_,h3,_⟩:=hr.del he;obtain⟨b',cs,g2,g3,g4,rfl⟩:=h1;have g2:γ k0 = .box b':=g2;rw[g1]at g2;cases g2;obtain⟨x1,l1,γ1,v1,ℓ1,hB,r1,le1,q1⟩:=ZSc hn hX FU h hr (hr.ul _ (Zk he).1).2.2;obtain⟨⟨k1,st1,L1⟩,he1,hC⟩:=hB;have hkk1:k1=k0:=(Zk he1).2;subst hkk1
     cases L1 with
     | box ty1 c1 =>
      obtain⟨e0,he0,hce⟩:=le1.l _ _ hk he1;rw[he]at he0;cases he0;have hce:γ1 k1=γ k1:=hce;obtain⟨es1,E1,f1,_,_,f3,r2⟩:=r1.del he1;obtain⟨b1,cs1,f4,f5,f6,rfl⟩:=f1;have f4:γ1 k1 = .box b1:=f4;rw[hce,g1]at f4;cases f4;have m0:=(hr.st.loc _ (h3.mem_iff.2 (List.mem_append_left _ (List.mem_singleton.2 rfl)))).1;have m1:=(r1.st.loc _ (f3.mem_iff.2 (List.mem_append_left _ (List.mem_singleton.2 rfl)))).1;have m0:w.heap[b]? = some (.cells cs.toArray ty0 (0,0)):=m0;have m1:w.heap[b]? = some (.cells cs1.toArray ty1 (0,0)):=m1;rw[m0]at m1;have hcs:cs=cs1:=by
       have:=Option.some.inj m1
       injection this with h1 _ _
       have:=congrArg Array.toList h1
       simpa using this
      subst hcs;obtain⟨v',hv,hs1,hAt⟩:=(r1.st.perm f3).pubVar (i:=0) rfl rfl;have hs1:St N w0 v0 [] E1.flatten v' a w:=hs1;have r3:=r2.go hv hs1;have hrel:=Rep.mono _ hv (q1 _ g3);have r4:=r3.slot (t:=s) (m:=n) (z:=.vp (Zpa α m) x1 0) ⟨[_],⟨b,0,cs,hAt,hrel,rfl⟩,hy0⟩ trivial hX;obtain⟨i0,hi0⟩:∃ i0,C.P.info? e=some i0:=by
       unfold szA at hq;split at hq
       ·rename_i i0 _ hi0 _;exact⟨i0,hi0⟩
       ·cases hq
      obtain⟨σ,hσ,e1⟩:=r4.st.ev1 (.tmp s);rw[hy0]at e1;obtain⟨k4,k5⟩:=ZQg (by omega) hrel;subst ho;refine ZZ r4 hU (Zhv hσ hu hi0 e1) hd hX (x:=.data (.slice α) (Z7a α m x1)) ⟨[.slice (some ⟨b,0,none⟩) m m],?_,rfl⟩ trivial hC;obtain⟨c2,T2,fr2,hvb,htk⟩:=hAt;have hlen:=Z6a k4;rw[k5]at hlen;refine⟨some ⟨b,0,none⟩,m,by rw[show (Z7a α m x1).length=m from k5],by rw[show (Z7a α m x1).length=m from k5];exact Nat.le_refl _,by unfold maxLen;omega,.inr ⟨b,0,c2,T2,fr2,rfl,hvb,?_⟩⟩;rw[show (Z7a α m x1).length=m from k5,← hlen,htk];exact k4
     | own _ _ _ _=>exact hC.elim
     | mat _ _ _ _ _=>exact hC.elim
     | mid _ _ _ _ _ _=>exact hC.elim
     | mp _=>exact hC.elim
     | it _ _=>exact hC.elim
     | lst _ _ _ _=>exact hC.elim
    | own _ _ _ _=>exact h.elim
    | mat _ _ _ _ _=>exact h.elim
    | mid _ _ _ _ _ _=>exact h.elim
    | mp _=>exact h.elim
    | it _ _=>exact h.elim
    | lst _ _ _ _=>exact h.elim
   ·exact h.elim
  ·exact h.elim
 ·exact h.elim
theorem RelX.dup (h:RelX N G w0 v0 U X f l a w γ v ℓ) {t:Nat} {e:En V} (he:lkE f t=some e):RelX N G w0 v0 U X (e :: f) l a w γ v ℓ:=by
 obtain⟨hm,hk⟩:=Zk he;have key:∀ t',lkE (e :: f) t'=lkE f t':=λt'=>by
  rw[ZL];split
  ·rename_i hk';rw[← hk',hk];exact he.symm
  ·rfl
 exact⟨h.st,λt' e' he'=>h.fr t' e' (by rw[← key];exact he'),h.lr,h.nd,λt' e' he'=>h.uf t' e' (by rw[← key];exact he'),h.ul,h.gh⟩
theorem run_mkI {σ:List (Nat×Value)} (hS:St N w0 v0 σ ℓ v a w) {t:TypeId} {x:Operand} {y:Value} {D:TypeDesc} (e:ev σ x=some y) (h:P.underlying t=some D) (hn:∀ q,some D≠some (.interface q)) :
  (execOp a.eval ⟨d,.makeInterface t x,ty,pos,aft,g⟩).run P w = .ok (.value (.iface t y)) w:=by
 have hx:=hS.eval e;have:(Instr.makeInterface t y).run P w = .ok (.iface t y) w:=by
  cases D with
  | interface q=>exact absurd rfl (hn q)
  | _=>simp[Instr.makeInterface,run_underlying h]
 simp[execOp,hx,this]
theorem ZUy {σ:List (Nat×Value)} (hS:St N w0 v0 σ ℓ v a w) {x y z u s t:Operand} {k:IntKind} {p q r p' q' r':Int} {ats:Array TypeId} (e:ev σ x=some (.int k p)) (e':ev σ y=some (.int k q)) (e2:ev σ z=some (.int k r)) (e3:ev σ u=some (.int k p')) (e4:ev σ s=some (.int k q')) (e5:ev σ t=some (.int k r')) :
  (execOp a.eval ⟨d,.call ⟨.builtin .max,#[x,y,z,u,s,t],ats⟩,ty,pos,aft,g⟩).run P w = .ok (.value (.int k (max (max (max (max (max p q) r) p') q') r'))) w:=by
 simp[execOp,resolve,invoke,builtin,Builtin.max_,hS.eval e,hS.eval e',hS.eval e2,hS.eval e3,hS.eval e4,hS.eval e5,ZLk]
theorem ZTq {C:Cf} (hr:RelX N G w0 v0 U X f l a w γ v ℓ) (hU:∀ k,U k→X k) (hX:X n) {t:TypeId} {x i:Operand} {o:Oper} {V1:V} {κ:IntKind} {j:Int} {Post:Unit→Fr→Lo→Prop} (ho:o=⟨d,.index t x i,ty,pos,aft,g⟩) (hd:∀ k,o.dst=some k→k<N) (h1:RV v γ l V1 (a.eval x)) (k1:V1.ok U)
  (e2:a.eval i = .int κ j) (hC':Zj n (ixV C o t V1 j) f l Post):Z8 C.P N G w0 v0 X o a w Post:=by
 subst ho;obtain⟨σ,hσ,ev1,ev2⟩:=hr.st.ev2 x i;rw[e2]at ev2;unfold ixV at hC';split at hC'
 ·rename_i m e ht;split at hC'
  ·rename_i q hq hag b0 b1;have b0:(0:Int)≤j:=by simpa using b0
   have b1:@LT.lt Int _ j (m:Int):=by simpa using b1
   split at hC'
   ·rename_i z hz;obtain⟨cs,hcs,hqe⟩:=Z8a h1 (λc e=>by subst e;cases hag);obtain⟨q1,q2,q3⟩:=ZFp hq hz hcs k1 w;have hv:V1.val cs = .agg cs.toArray:=by unfold V.val;rw[hag]
    rw[hqe,hv]at ev1;refine ZZ hr hU (Z1p hσ ev1 ev2 ?_) hd hX (ZYb q2 (λc e=>by subst e;exact q2)) (V.ok.mono hU q3) hC';simp[Instr.index,asIntOf,run_underlying ht,b0,b1,(Zde hq).size,q1]
   ·exact hC'.elim
  ·exact hC'.elim
 ·exact hC'.elim
theorem Zdv {C:Cf} (hr:RelX N G w0 v0 U X f l a w γ v ℓ) (hU:∀ k,U k→X k) (hX:X n) {t:TypeId} {x i:Operand} {o:Oper} {V1:V} {κ:IntKind} {j:Int} {Post:Unit→Fr→Lo→Prop} (ho:o=⟨d,.index t x i,ty,pos,aft,g⟩) (hd:∀ k,o.dst=some k→k<N) (h1:RV v γ l V1 (a.eval x)) (k1:V1.ok U)
  (e2:a.eval i = .int κ j):∀ {m k:Nat},Zj n (altsV C o t V1 j m k) f l Post→Z8 C.P N G w0 v0 X o a w Post:=by
 intro m
 induction m with
 | zero=>intro k h;exact h.elim
 | succ m ih =>
  intro k h;by_cases e:j=(k:Int)
  ·have h3:=h.1 (dT e);rw[← e]at h3;exact ZTq hr hU hX ho hd h1 k1 e2 h3
  ·exact ih (h.2 (dFq e))
theorem Zvv {α:T}:∀ m,(Zpa α m).agg=true
 | 0 | 1 | 2=>rfl
 | _+3=>rfl
theorem Z8w {P:Program} {t:TypeId} {q:Nat×Bool} (ht:szA P t=some q) {α:T} {y:α.den} {off:Nat} {cs:List Value} (hn:q.1=α.n) (ha:q.2=α.agg) (hrel:α.rep.rel v ((cs.drop off).take α.n) y) (hlen:((cs.drop off).take α.n).length=α.n) (hle:off+α.n≤cs.length) (w:World) :
  (part t cs.toArray off).run P w = .ok ((V.data α y).val ((cs.drop off).take α.n)) w:=by
 have hS:=Zde ht;unfold part
 cases hag:q.2 with
 | true =>
  have h1:=hS.agg w;rw[hag]at h1;have h3:(cs.toArray.extract off (off+α.n))=((cs.drop off).take α.n).toArray:=by
   apply Array.ext';rw[Array.toList_extract];simp[List.extract,List.take_drop]
  have h4:(V.data α y).isAgg=true:=by show α.agg=true;rw[← ha,hag]
  simp[h1,hS.size,hn,V.val,h4,h3]
 | false =>
  have h1:=hS.agg w;rw[hag]at h1;have h4:(V.data α y).isAgg=false:=by show α.agg=false;rw[← ha,hag]
  have h2:α.n=1:=T_one (by rw[← ha,hag]);have h5:cs[off]? = some ((V.data α y).val ((cs.drop off).take α.n)):=by
   unfold V.val;rw[h4,h2];have:off<cs.length:=by omega
   rw[List.getElem?_eq_getElem this,List.drop_eq_getElem_cons this];rfl
  have h5':cs.toArray[off]? = some ((V.data α y).val ((cs.drop off).take α.n)):=by simpa using h5
  simp[h1,h5']
theorem ixQ_ok {C:Cf} (hr:RelX N G w0 v0 U X f l a w γ v ℓ) (hU:∀ k,U k→X k) (hX:X n) {t:TypeId} {x i:Operand} {o:Oper} {V1:V} {κ:IntKind} {j:Int} {Post:Unit→Fr→Lo→Prop} (ho:o=⟨d,.indexAddr t x i,ty,pos,aft,g⟩) (hd:∀ k,o.dst=some k→k<N) (hp:RV v γ l V1 (a.eval x))
  (hi:a.eval i = .int κ j) (h:Zj n (ixQ C o t V1 j) f l Post):Z8 C.P N G w0 v0 X o a w Post:=by
 unfold ixQ at h;split at h
 ·rename_i m e hu;split at h
  ·rename_i α q hα hq hm0;have hm0:0<m:=lB hm0;split at h
   ·rename_i u hqn;have hqn:=eQ hqn;obtain⟨⟨kk,st,L⟩,he,h⟩:=h;obtain⟨yy,hy0,_,hyy⟩:=Z6 hp (λ_ e=>by cases e) rfl rfl;have hy0:a.eval x=yy:=(List.cons.inj hy0).1;have hyy:=hyy _ he;have hkk:kk=u:=(Zk he).2;subst hkk
    cases L with
    | box ty0 c =>
     obtain⟨b,g1,rfl⟩:=hyy
     cases c with
     | data s0 x0 =>
      simp only at h;split at h
      ·rename_i x1 hty hx1;obtain⟨c3,c4⟩:=Z2 hx1;subst c3;subst c4;obtain⟨y,hy,h⟩:=h;have hy:idx (Z7a α m x0) j=some y:=hy;obtain⟨r1,r2,r3,r4⟩:=Zp hy;obtain⟨_,es,hes,hmem⟩:=hr.loc he;obtain⟨b',cs,q1,q2,q3,rfl⟩:=hes;obtain⟨k1,k2⟩:=ZQg hm0 (show (Zpa α m).rep.rel v cs x0 from q2);have hrel:=ZHa k1 r2;rw[k2]at r3;obtain⟨inf,hinf,hsz⟩:∃ i0,C.P.info? e=some i0∧q.1=i0.size:=by
        unfold szA at hq;split at hq
        ·rename_i i0 _ hi0 _;cases hq;exact⟨i0,hi0,rfl⟩
        ·cases hq
       have hA:ZMg C.P t m inf.size:=⟨e,λw=>run_underlying hu w,λw=>Z6g hinf w⟩;obtain⟨σ,hσ,e1,e2⟩:=hr.st.ev2 x i;rw[hy0]at e1;rw[hi]at e2;subst ho;refine ZZ hr hU (Z5r hσ hA e1 e2 r1 r3 (0+j.toNat*α.n+0) (by rw[← hsz,hqn];omega)) hd hX (x:=.el kk j.toNat st α y 0) ⟨[_],⟨_,rfl,Zsc,⟨_,hrel⟩,λe' he'=>?_⟩,rfl⟩ ⟨(hr.ul _ (Zk he).1).1,(hr.ul _ (Zk he).1).2.1⟩ h;rw[he]at he';cases he';exact⟨b,g1,rfl⟩
      ·exact h.elim
     | _=>exact h.elim
    | own _ _ _ _=>exact h.elim
    | mat _ _ _ _ _=>exact h.elim
    | mid _ _ _ _ _ _=>exact h.elim
    | mp _=>exact h.elim
    | it _ _=>exact h.elim
    | lst _ _ _ _=>exact h.elim
   ·exact h.elim
  ·exact h.elim
 ·exact h.elim
theorem ixW_ok {C:Cf} (hr:RelX N G w0 v0 U X f l a w γ v ℓ) (hU:∀ k,U k→X k) (hX:X n) {t:TypeId} {x i:Operand} {o:Oper} {V1:V} {κ:IntKind} {j:Int} {Post:Unit→Fr→Lo→Prop} (ho:o=⟨d,.index t x i,ty,pos,aft,g⟩) (hd:∀ k,o.dst=some k→k<N) (h1:RV v γ l V1 (a.eval x))
  (e2:a.eval i = .int κ j) (h:Zj n (ixW C o t V1 j) f l Post):Z8 C.P N G w0 v0 X o a w Post:=by
 subst ho;obtain⟨σ,hσ,ev1,ev2⟩:=hr.st.ev2 x i;rw[e2]at ev2;unfold ixW at h;split at h
 ·rename_i m e ht;split at h
  ·rename_i α q s0 x0 hα hq hm0;have hm0:0<m:=lB hm0;split at h
   ·rename_i x1 hqn hag hx1;have hqn:=eQ hqn;have hag:=ZDi hag;obtain⟨c3,c4⟩:=Z2 hx1;subst c3;subst c4;obtain⟨y,hy,h⟩:=h;have hy:idx (Z7a α m x0) j=some y:=hy;obtain⟨r1,r2,r3,r4⟩:=Zp hy;obtain⟨cs,hcs,hqe⟩:=Z8a h1 (λc e=>by cases e);have hcs:(Zpa α m).rep.rel v cs x0:=hcs;obtain⟨k1,k2⟩:=ZQg hm0 hcs;have hrel:=ZHa k1 r2;rw[ZK]at hrel;rw[k2]at r3;have hagg:(V.data (Zpa α m) x0).isAgg=true:=Zvv m;have hv:(V.data (Zpa α m) x0).val cs = .agg cs.toArray:=by unfold V.val;rw[hagg]
    rw[hqe,hv]at ev1;have hcl:=Z6a k1;rw[ZK,k2]at hcl;have hlen:=Rep.len _ hrel;rw[ZK]at hlen;refine ZZ hr hU (Z1p hσ ev1 ev2 (z:=(V.data α y).val ((cs.drop (j.toNat*α.n)).take α.n)) ?_) hd hX (x:=.data α y) ⟨_,hrel,rfl⟩ trivial h;have b0:(0:Int)≤j:=r1;have b1:@LT.lt Int _ j (m:Int):=r3;have hp:=Z8w hq hqn hag hrel hlen (cs:=cs) (off:=j.toNat*α.n) (by
     have:j.toNat<m:=by omega
     rw[hcl,← Nat.succ_mul];exact mR _ this) w
    simp[Instr.index,asIntOf,run_underlying ht,b0,b1,(Zde hq).size,hqn,hp]
   ·exact h.elim
  ·exact h.elim
 ·exact h.elim
theorem ZCn {P:Program} {t:TypeId} {z:Int} (h:Zrh P t=some z):(∀ w,(zeroValue t).run P w = .ok (.int .i64 z) w)∧z=0:=by
 unfold Zrh at h;split at h
 ·rename_i i hi;split at h
  ·rename_i y hy;split at h
   ·rename_i h0
    cases h
    exact⟨λw=>by simp[zeroValue,typeInfo,hi,hy],h0⟩
   ·cases h
  ·cases h
 ·cases h
theorem new_map (hr:RelX N G w0 v0 U X f l a w γ v ℓ) (hU:∀ k,U k→X k) (hX:X n) (hn:¬ U n) {o:Oper} {Post:Unit→Fr→Lo→Prop} (hd:∀ k,o.dst=some k→k<N)
  (hrun:(execOp a.eval o).run P w = .ok (.value (.map (some w.heap.size))) (w.alloc (.map #[] 0))) (h:Zj n (Ev.new n (.mp (some [])) (ret o (.own n))) f l Post):Z8 P N G w0 v0 X o a w Post:=by
 obtain⟨hnew,h⟩:=h;obtain⟨E,hE,hpm⟩:=hr.lr;have hst:=(hr.st.perm hpm).newLoc (.map #[] 0) (e:=.mp w.heap.size []) rfl ⟨#[],0,heap_alloc_new w _,rfl⟩;have hr':=hr.new (γ':=ZPa γ n (.box w.heap.size)) (L':=.mp (some [])) hX hX hn hnew hE hst (Zb.le_refl _) (λ_ h=>Z9a h) (es':=[.mp w.heap.size []]) ⟨_,Zla,rfl,λ_ h=>(by cases h)⟩ (List.Perm.refl _) trivial;refine fin (x:=.own n) (hr'.mono hU λ_ h=>h) hrun hd hX ⟨[_],⟨_,rfl,rfl,λe' he'=>?_⟩,rfl⟩ hX h;rw[ZL,iP rfl]at he';cases he';exact⟨_,Zla,rfl⟩
theorem new_it (hr:RelX N G w0 v0 U X f l a w γ v ℓ) (hU:∀ k,U k→X k) (hX:X n) (hn:¬ U n) {o:Oper} {s:List UInt8} {Post:Unit→Fr→Lo→Prop} (hd:∀ k,o.dst=some k→k<N)
  (hrun:(execOp a.eval o).run P w = .ok (.value (.pointer (some ⟨w.heap.size,0,none⟩))) (w.alloc (.stringIter ⟨s.toArray⟩ 0))) (h:Zj n (Ev.new n (.it s 0) (ret o (.ptr n 0))) f l Post):Z8 P N G w0 v0 X o a w Post:=by
 obtain⟨hnew,h⟩:=h;obtain⟨E,hE,hpm⟩:=hr.lr;have hst:=(hr.st.perm hpm).newLoc (.stringIter ⟨s.toArray⟩ 0) (e:=.it w.heap.size s 0) rfl (heap_alloc_new w _);have hr':=hr.new (γ':=ZPa γ n (.box w.heap.size)) (L':=.it s 0) hX hX hn hnew hE hst (Zb.le_refl _) (λ_ h=>Z9a h) (es':=[.it w.heap.size s 0]) ⟨_,Zla,rfl⟩ (List.Perm.refl _) trivial;refine fin (x:=.ptr n 0) (hr'.mono hU λ_ h=>h) hrun hd hX ⟨[_],⟨_,rfl,Zsc,λe' he'=>?_⟩,rfl⟩ hX h;rw[ZL,iP rfl]at he';cases he';exact⟨_,Zla,rfl⟩
theorem ZWw {s:List UInt8} {p:Nat} {c:Int} (h:ZYg s p=some c):∃ b:UInt8,s[p]? = some b∧b.toNat<128∧c=(b.toNat:Int)∧s.length≤maxLen:=by
 unfold ZYg at h;split at h
 ·rename_i b hb;split at h
  ·rename_i h1 h2
   cases h
   exact⟨b,hb,by simpa [Nat.blt_eq] using h1,rfl,lB h2⟩
  ·cases h
 ·cases h
theorem ZNx {m m':Option MPd} {s:List UInt8} {i:Int} (h:mpPut m s i=some m'):∃ m0,m=some m0∧Z1a m0 s=none∧m'=some (m0++[(s,i)]):=by
 unfold mpPut at h;split at h
 ·cases h
 ·split at h
  ·rename_i hg;cases h;exact⟨_,rfl,hg,rfl⟩
  ·cases h
theorem mp_obj (hr:RelX N G w0 v0 U X f l a w γ v ℓ) {u k st:Nat} {m:MPd} (he:lkE l u=some ⟨k,st,.mp (some m)⟩):∃ b es c,γ u = .box b∧w.heap[b]? = some (.map es c)∧mpL es.toList m∧∀ x ∈ m,inR .i64 x.2:=by
 obtain⟨jj,es0,t1,t2⟩:=hr.loc he;have hk:k=u:=(Zk he).2;subst hk;obtain⟨b,g1,rfl,g2⟩:=t1;obtain⟨i,hi⟩:=t2 _ (List.mem_singleton.2 rfl);obtain⟨es,c,q1,q2⟩:=(hr.st.loc _ (mG hi)).1;exact⟨b,es,c,g1,q1,q2,g2⟩
theorem mp_look (hr:RelX N G w0 v0 U X f l a w γ v ℓ) {u k st:Nat} {m:Option MPd} (he:lkE l u=some ⟨k,st,.mp m⟩) {y:Value} (hy:mpH (γ u) m y) {mty kt et:TypeId} (hm:P.underlying mty=some (.map kt et)) (hk:P.underlying kt=some .string) {z0:Int} (hz:(zeroValue et).run P w = .ok (.int .i64 z0) w) (h0:inR .i64 z0) (s:List UInt8) :
  (Instr.lookup mty y (.string (Zg s)) true).run P w = .ok (.tuple #[.int .i64 ((Zya m s).getD z0),.bool (Zya m s).isSome]) w∧(Instr.lookup mty y (.string (Zg s)) false).run P w = .ok (.int .i64 ((Zya m s).getD z0)) w∧inR .i64 ((Zya m s).getD z0):=by
 cases m with
 | none =>
  have hy:y = .map none:=hy;subst hy;exact⟨ZUs hm hk hz,ZPp hm hk hz,h0⟩
 | some m =>
  obtain⟨b,es,c,q1,q2,q3,q4⟩:=mp_obj hr he;obtain⟨b',g1,rfl⟩:=hy;rw[q1]at g1;cases g1;refine⟨ZEt hm hk hz q2 q3,Zjs hm hk hz q2 q3,?_⟩;show inR .i64 ((Z1a m s).getD z0)
  cases e:Z1a m s with
  | none=>exact h0
  | some x =>
   obtain⟨z,hz,h2⟩:=ZEm e;show inR .i64 x;rw[← h2];exact q4 z hz
theorem mp_put (hr:RelX N G w0 v0 U X f l a w γ v ℓ) (hX:X n) {u k st:Nat} {m:MPd} (he:lkE l u=some ⟨k,st,.mp (some m)⟩) {y:Value} (hy:mpH (γ u) (some m) y) {mty kt et:TypeId} (hm:P.underlying mty=some (.map kt et)) (hk:P.underlying kt=some .string) {s:List UInt8} {i:Int} (hi:inR .i64 i) (hg:Z1a m s=none) :
  ∃ w' ℓ',(Instr.mapUpdate mty y (.string (Zg s)) (.int .i64 i)).run P w = .ok () w'∧RelX N G w0 v0 U X f (⟨u,n,.mp (some (m++[(s,i)]))⟩ :: era l u) a w' γ v ℓ':=by
 obtain⟨hmm,hkk⟩:=Zk he;have hkk:k=u:=hkk;subst hkk;obtain⟨es,E',h1,h2,h5,h3,h4⟩:=hr.del he;obtain⟨b,g1,rfl,g2⟩:=h1;obtain⟨b',g3,rfl⟩:=hy;have g1:γ k = .box b:=g1;rw[g1]at g3;cases g3;have hs:St N w0 v0 [] (.mp b (mpV m) :: E'.flatten) v a w:=hr.st.perm h3;obtain⟨es,c,q1,q2⟩:=(hs.loc _ List.mem_cons_self).1;obtain⟨es',c',r1,r2⟩:=Znv (x:=i) hm hk q1 q2 hg;have hs':=hs.setMap (c':=c') (l':=mpV (m++[(s,i)])) r2;refine⟨_,_,r1,hr.upd hX (hr.ul _ hmm).1 h2 hs' (Le.upd hr he (Zb.le_refl _) (λ_ _=>rfl) ⟨rfl,rfl⟩) (λ_ _=>rfl) ⟨b,g1,rfl,λx hx=>?_⟩ (List.Perm.refl _) trivial⟩;rcases List.mem_append.1 hx with hx | hx
 ·exact g2 x hx
 ·rw[List.mem_singleton.1 hx];exact hi
theorem ZKm {C:Cf} (hC:CfOK C) (hr:RelX N G w0 v0 U X f l a w γ v ℓ) (hU:∀ k,U k→X k) (hX:X n) (hn:¬ U n) {o:Oper} {Post:Unit→Fr→Lo→Prop} (hd:∀ k,o.dst=some k→k<N) (h:Zj n (ZM C n o) f l Post):Z8 C.P N G w0 v0 X o a w Post:=by
 obtain⟨d,op,ty,pos,aft,g⟩:=o
 cases op with
 | move x =>
  simp only[ZM]at h;obtain⟨V1,h1,k1,hA⟩:=ZA hr h;obtain⟨σ,hσ,e1⟩:=hr.st.ev1 x;exact ZZ hr hU (Z3 hσ e1) hd hX h1 (V.ok.mono hU k1) hA
 | assign x =>
  simp only[ZM]at h;split at h
  ·rename_i hx;have hx:x = .const (.pointer none):=by
    unfold ZPi at hx;split at hx
    ·rfl
    ·cases hx
   subst hx;obtain⟨h0,hA⟩:=h;have e0:Go.Eng.era (⟨n,n,LV.box 0 .undef⟩ :: l) n=l:=by
    simp only[era];rw[show Nat.beq n n=true from Nat.beq_refl n]
   have hA:Zj n (ret ⟨d,.assign (.const (.pointer none)),ty,pos,aft,g⟩ (.ptr n 0)) f (Go.Eng.era (⟨n,n,LV.box 0 .undef⟩ :: l) n) Post:=hA;rw[e0]at hA;obtain⟨σ,hσ,e1⟩:=hr.st.ev1 (.const (.pointer none));exact ZZ hr hU (Z9d hσ e1) hd hX (x:=.ptr n 0) ⟨[.pointer none],⟨_,rfl,rfl,λe he=>by rw[h0]at he;cases he⟩,rfl⟩ hX hA
  ·obtain⟨V1,h1,k1,hA⟩:=ZA hr h;obtain⟨σ,hσ,e1⟩:=hr.st.ev1 x;exact ZZ hr hU (Z9d hσ e1) hd hX h1 (V.ok.mono hU k1) hA
 | nilCheck x =>
  simp only[ZM]at h;obtain⟨V1,h1,k1,hA⟩:=ZA hr h;split at hA
  ·rename_i α y;obtain⟨cs,hcs,e0⟩:=h1;obtain⟨b,o',c,rfl,hat,hrel⟩:=(show (rPtr α.rep).rel v cs y from hcs);obtain⟨σ,hσ,e1⟩:=hr.st.ev1 x;rw[e0]at e1;have e1:ev σ x=some (.pointer (some ⟨b,o',none⟩)):=e1;have hrun:(execOp a.eval ⟨d,.nilCheck x,ty,pos,aft,g⟩).run C.P w = .ok (.value (.pointer (some ⟨b,o',none⟩))) w:=by simp[execOp,hσ.eval e1]
   exact ZZ hr hU hrun hd hX (x:=.vp α y 0) ⟨[_],⟨b,o',c,hat,hrel,rfl⟩,rfl⟩ trivial hA
  obtain⟨hB,b,o',e',_⟩:=ZPh h1 k1 hA;obtain⟨σ,hσ,e1⟩:=hr.st.ev1 x;rw[e']at e1 h1;have hrun:(execOp a.eval ⟨d,.nilCheck x,ty,pos,aft,g⟩).run C.P w = .ok (.value (.pointer (some ⟨b,o',none⟩))) w:=by simp[execOp,hσ.eval e1]
  exact ZZ hr hU hrun hd hX h1 (V.ok.mono hU k1) hB
 | extract x i =>
  simp only[ZM]at h;obtain⟨V1,h1,k1,hA⟩:=ZA hr h;split at hA
  ·rename_i c;split at hA
   ·rename_i z hz;obtain⟨vals,h2,h3⟩:=h1;obtain⟨y,q1,q2,q3⟩:=Zho hz h2 k1;obtain⟨σ,hσ,e1⟩:=hr.st.ev1 x;rw[h3]at e1;exact ZZ hr hU (Zka hσ e1 (by simpa using q1)) hd hX q2 (V.ok.mono hU q3) hA
   ·exact hA.elim
  ·exact hA.elim
 | alloc t =>
  simp only[ZM]at h;split at h
  ·rename_i z hz;obtain⟨y,cs,hy,hcells,hzz,hkz,hp⟩:=ZGl (v:=v) (γ:=γ) (l:=l) (U:=U) hz;refine ZTr hr hU hX hn hd hzz hkz hp ?_ h;have:=Zzg (a:=a) (w:=w) (d:=d) (ty:=ty) (pos:=pos) (aft:=aft) (g:=g) hy;rw[hcells]at this;exact this
  ·exact h.elim
 | box t x =>
  simp only[ZM]at h;obtain⟨V1,h1,k1,hA⟩:=ZA hr h;split at hA
  ·rename_i hfit;obtain⟨cs,hcs,hqe⟩:=Z8a h1 (Zbk hfit);obtain⟨hcells,hpl⟩:=Zii hcs hfit;obtain⟨σ,hσ,e1⟩:=hr.st.ev1 x;rw[hqe]at e1;refine ZTr hr hU hX hn hd hcs k1 hpl ?_ hA;have:=Zyo (t:=t) (d:=d) (ty:=ty) (pos:=pos) (aft:=aft) (g:=g) (P:=C.P) hσ e1;rw[show (V1.val cs).cells=cs.toArray from hcells]at this;exact this
  ·exact hA.elim
 | load t x =>
  simp only[ZM]at h;obtain⟨V1,h1,k1,hA⟩:=ZA hr h;split at hA
  ·exact ZCw hr hU hX hn rfl hd h1 hA
  obtain⟨z,y,q1,q2,q3,hB⟩:=ZKn (d:=d) (ty:=ty) (pos:=pos) (aft:=aft) (g:=g) hr h1 k1 hA;exact ZZ hr hU q1 hd hX q2 (V.ok.mono hU q3) hB
 | store t x y =>
  simp only[ZM]at h
  cases d with
  | some d=>exact h.elim
  | none =>
   obtain⟨V1,h1,k1,hA⟩:=ZA hr h;obtain⟨V2,h2,k2,hB⟩:=ZA hr hA;exact stE_ok hr hU hX hn rfl h1 h2 k1 k2 hB
 | fieldAddr s x i =>
  simp only[ZM]at h;obtain⟨V1,h1,k1,hA⟩:=ZA hr h;obtain⟨z,y,q1,q2,q3,hB⟩:=Zes (d:=d) (ty:=ty) (pos:=pos) (aft:=aft) (g:=g) hr h1 k1 hA;exact ZZ hr hU q1 hd hX q2 (V.ok.mono hU q3) hB
 | field s x i =>
  simp only[ZM]at h;obtain⟨V1,h1,k1,hA⟩:=ZA hr h;split at hA
  ·rename_i fd hfd hag;split at hA
   ·rename_i q hq;split at hA
    ·rename_i z hz;obtain⟨cs,hcs,hqe⟩:=Z8a h1 (λc e=>by subst e;cases hag);obtain⟨q1,q2,q3⟩:=ZFp hq hz hcs k1 w;obtain⟨σ,hσ,e1⟩:=hr.st.ev1 x;have hv:V1.val cs = .agg cs.toArray:=by unfold V.val;rw[hag]
     rw[hqe,hv]at e1;refine ZZ hr hU (Z4y hσ e1 ?_) hd hX (ZYb q2 (λc e=>by subst e;exact q2)) (V.ok.mono hU q3) hA;unfold fldT at hfd;split at hfd
     ·rename_i fs hfs;have hfd':fs[i]? = some fd:=by rw[← Array.getElem?_toList];exact hfd
      simp[Instr.field,run_underlying hfs,hfd',asAgg,q1]
     ·cases hfd
    ·exact hA.elim
   ·exact hA.elim
  ·exact hA.elim
 | indexAddr t x i =>
  simp only[ZM]at h;obtain⟨V1,h1,k1,hA⟩:=ZA hr h;obtain⟨V2,h2,k2,hB⟩:=ZA hr hA;obtain⟨κ,j,rfl,hC'⟩:=Zdb hB;split at hC'
  ·unfold altE at hC';split at hC'
   ·exact alts_ok hr hU hX rfl hd h1 k1 (Zza h2).1 hC'
   ·exact hC'.elim
  ·exact ixQ_ok hr hU hX rfl hd h1 (Zza h2).1 hC'
  ·exact ixE_ok hr hU hX rfl hd h1 k1 (Zza h2).1 hC'
 | index t x i =>
  simp only[ZM]at h;obtain⟨V1,h1,k1,hA⟩:=ZA hr h;obtain⟨V2,h2,k2,hB⟩:=ZA hr hA;obtain⟨κ,j,rfl,hC'⟩:=Zdb hB;obtain⟨e2,_⟩:=Zza h2;obtain⟨σ,hσ,ev1,ev2⟩:=hr.st.ev2 x i;rw[e2]at ev2;split at hC'
  ·obtain⟨e1,_⟩:=ZZc h1;rw[e1]at ev1;split at hC'
   ·rename_i ht;obtain⟨y,hy,hC'⟩:=hC';exact ZZ hr hU (Zju hσ ev1 ev2 ht hy) hd hX (ZMa (Z2p y)) trivial hC'
   ·exact hC'.elim
  ·split at hC'
   ·unfold altvE at hC';split at hC'
    ·exact Zdv hr hU hX rfl hd h1 k1 e2 hC'
    ·exact hC'.elim
   ·exact ixW_ok hr hU hX rfl hd h1 e2 hC'
   ·exact ZTq hr hU hX rfl hd h1 k1 e2 hC'
 | binOp op t x y t' =>
  simp only[ZM]at h;split at h
  ·rename_i hy;have hy:y = .const (.pointer none):=by
    unfold ZPi at hy;split at hy
    ·rfl
    ·cases hy
   subst hy;obtain⟨V1,h1,k1,hA⟩:=ZA hr h;unfold nilE at hA;split at hA
   ·rename_i e ht;have key:∀ {b o:Nat},a.eval x = .pointer (some ⟨b,o,none⟩)→(execOp a.eval ⟨d,.binOp .eql t x (.const (.pointer none)) t',ty,pos,aft,g⟩).run C.P w = .ok (.value (.bool false)) w:=λ{b o} he=>by
     have h:∀ w:World,(Op.equal t (.pointer (some ⟨b,o,none⟩)) (.pointer none)).run C.P w = .ok false w:=λw=>by
      show (Op.equalIn (9999+1) t (.pointer (some ⟨b,o,none⟩)) (.pointer none)).run C.P w=_;unfold Op.equalIn;simp[run_underlying ht]
     have hc:a.eval (.const (.pointer none)) = .pointer none:=rfl;simp[execOp,he,hc,eqGuard,binOp,h]
    split at hA
    ·rename_i α y;obtain⟨cs,hcs,e0⟩:=h1;obtain⟨b,o',c,rfl,hat,hrel⟩:=(show (rPtr α.rep).rel v cs y from hcs);exact ZZ hr hU (key (b:=b) (o:=o') e0) hd hX (x:=.data .bool false) ZPb trivial hA
    ·obtain⟨hB,b,o',e',_⟩:=ZPh h1 k1 hA;exact ZZ hr hU (key e') hd hX (x:=.data .bool false) ZPb trivial hB
   ·exact hA.elim
  obtain⟨V1,h1,k1,hA⟩:=ZA hr h;obtain⟨V2,h2,k2,hB⟩:=ZA hr hA;obtain⟨z,q,q1,q2,q3,hC'⟩:=binE_ok (d:=d) (ty:=ty) (pos:=pos) (aft:=aft) (g:=g) (t':=t') hr h1 h2 hB;exact ZZ hr hU q1 hd hX q2 (V.ok.mono hU q3) hC'
 | unOp u t x =>
  cases u with
  | not =>
   simp only[ZM]at h;obtain⟨V1,h1,k1,hA⟩:=ZA hr h;obtain⟨b,rfl,hB⟩:=Zwu hA;obtain⟨σ,hσ,e1⟩:=hr.st.ev1 x;rw[Z7e h1]at e1;exact ZZ hr hU (Zhr hσ e1) hd hX ZPb trivial hB
  | neg =>
   simp only[ZM]at h;obtain⟨V1,h1,k1,hA⟩:=ZA hr h;obtain⟨κ,i,rfl,hB⟩:=Zdb hA;obtain⟨σ,hσ,e1⟩:=hr.st.ev1 x;rw[(Zza h1).1]at e1;exact ZZ hr hU (ZWl hσ e1) hd hX (ZMa (Zub _ _)) trivial hB
  | _=>exact h.elim
 | convert s t x =>
  simp only[ZM]at h;obtain⟨V1,h1,k1,hA⟩:=ZA hr h;obtain⟨σ,hσ,e1⟩:=hr.st.ev1 x;split at hA
  ·rename_i κ i ds κ' hs ht;obtain⟨q1,q2⟩:=Zza h1;rw[q1]at e1;have hcv:∀ w,(convert s t (.int κ i)).run C.P w = .ok (.int κ' (κ'.wrap i)) w:=λw=>by
    simp[convert,run_underlying hs,run_underlying ht,Conv.intToInt]
   split at hA
   ·rename_i hk;have hk:=ZAc hk;subst hk;refine ZZ hr hU (Z0e hσ e1 hcv) hd hX (x:=.data (.int κ) i) ?_ trivial hA;rw[Zze q2];exact ZMa q2
   ·exact ZZ hr hU (Z0e hσ e1 hcv) hd hX (ZMa (Zub _ _)) trivial hA
  ·rename_i hs ht;obtain⟨q1,q2⟩:=ZZc h1;rw[q1]at e1;exact ZZ hr hU (Z0e hσ e1 (λw=>by simp[convert,run_underlying hs,run_underlying ht])) hd hX (Z2i q2) trivial hA
  ·rename_i l e hs ht;split at hA
   ·rename_i he;obtain⟨q1,q2⟩:=ZZc h1;rw[q1]at e1;obtain⟨q,k,v',w',r1,r2,r3,r4⟩:=ZAy hσ l hs ht he q2;refine fin (x:=.data (.slice (.int .u8)) (ZTa l)) ((hr.go r2 r3.bare).mono hU λ_ h=>h) (r1 e1) hd hX ⟨[_],r4,rfl⟩ trivial hA
   ·exact hA.elim
  ·exact hA.elim
 | makeInterface t x =>
  simp only[ZM]at h;obtain⟨V1,h1,k1,hA⟩:=ZA hr h;split at hA
  ·rename_i hfit;split at hA
   ·exact hA.elim
   ·rename_i D hni hD;obtain⟨cs,hcs,hqe⟩:=Z8a h1 (Zbk hfit);obtain⟨σ,hσ,e1⟩:=hr.st.ev1 x;rw[hqe]at e1;refine ZZ hr hU (run_mkI hσ e1 hD λq e=>hni q (Option.some.inj e)) hd hX (x:=.ifc t V1) ⟨[_],⟨cs,hcs,rfl⟩,rfl⟩ (V.ok.mono hU k1) hA
   ·exact hA.elim
  ·exact hA.elim
 | makeFunc fn first cap =>
  cases fn with
  | func fi =>
   simp only[ZM]at h;split at h
   ·rename_i hfirst;obtain⟨c,h1,k1,hA⟩:=Z6e hr h;obtain⟨σ,hσ,hev⟩:=hr.st.evs cap.toList;have hargs:cap.toList.map (ev σ)=(cap.toList.map a.eval).map some:=by
     rw[List.map_map];exact List.map_congr_left λy hy=>hev y hy
    have hf:first = #[]:=by
     apply Array.ext';simpa using hfirst
    subst hf;exact ZZ hr hU (Zpr hσ _ hargs) hd hX (x:=.fn fi c) ⟨[_],⟨_,h1,rfl⟩,rfl⟩ (V.ok.mono hU k1) hA
   ·exact h.elim
  | _=>exact h.elim
 | makeSlice t x y=>exact Z5t hr hU hX hn rfl hd h
 | buildSlice t m ps=>exact Zpw hr hU hX hn rfl hd h
 | build t ps=>exact Zfy hr hU hX rfl hd h
 | slice t x lo hi mx =>
  cases mx with
  | some _=>exact h.elim
  | none =>
   simp only[ZM]at h;obtain⟨i,hA,hlo⟩:=ZEp hr h;obtain⟨j,hB,hhi⟩:=ZEp hr hA;obtain⟨V1,h1,k1,hC'⟩:=ZA hr hB;split at hC'
   ·rename_i u;obtain⟨en,he,hC'⟩:=hC';obtain⟨kk,st,L⟩:=en
    cases L with
    | own ty0 s xs fz =>
     obtain⟨ys,l1,γ1,v1,ℓ1,hD,r1,le1,q1⟩:=ZSc hn hX FU hC' hr k1;obtain⟨cs,hcs,hqe⟩:=Z8a h1 (λc e=>by cases e);have hrel:=q1 _ hcs;exact ZJj (p:=.data (.slice s) ys) r1 hU hX rfl hd ⟨cs,hrel,hqe⟩ hlo hhi hD
    | box _ _=>exact hC'.elim
    | mp _=>exact hC'.elim
    | it _ _=>exact hC'.elim
    | lst _ _ _ _=>exact hC'.elim
    | mid _ _ _ _ _ _=>exact hC'.elim
    | mat _ _ _ _ _=>exact hC'.elim
   ·obtain⟨cs,hcs,hqe⟩:=Z7c h1;exact ZJj (p:=.data (.slice (.int .u64)) (Zc 18446744073709551616 _)) hr hU hX rfl hd ⟨cs,hcs,hqe⟩ hlo hhi hC'
   ·obtain⟨cs,hcs,hqe⟩:=Z7c h1;exact ZJj (p:=.data (.slice (.int .u32)) (Zc 4294967296 _)) hr hU hX rfl hd ⟨cs,hcs,hqe⟩ hlo hhi hC'
   ·split at hC'
    ·exact arrE_ok hr hU hX hn rfl hd h1 k1 hlo hhi hC'
    ·exact hC'.elim
   ·exact ZJj hr hU hX rfl hd h1 hlo hhi hC'
 | pick c x y =>
  cases c with
  | tmp c =>
   simp only[ZM]at h;obtain⟨s,b,hf,h1,h2⟩:=h;have hr':=RelX.dup hr hf;have hc:=Z7e (hr.fr c _ hf);obtain⟨σ,hσ,hev⟩:=hr.st.evs [.tmp c,x,y];have e0:=hev (.tmp c) (by simp);have e0:ev σ (.tmp c)=some (.bool b):=e0.trans (congrArg some hc);have ex:=hev x (by simp);have ey:=hev y (by simp)
   cases b with
   | true =>
    obtain⟨V1,q1,k1,hA⟩:=ZA hr' (h1 rfl);exact ZZ hr' hU (ZEc hσ e0 (by rw[iP rfl];exact ex)) hd hX q1 (V.ok.mono hU k1) hA
   | false =>
    obtain⟨V1,q1,k1,hA⟩:=ZA hr' (h2 rfl);exact ZZ hr' hU (ZEc hσ e0 (by rw[iN (by decide)];exact ey)) hd hX q1 (V.ok.mono hU k1) hA
  | _=>exact h.elim
 | call c =>
  obtain⟨callee,args,ats⟩:=c
  cases callee with
  | value x =>
   simp only[ZM]at h;obtain⟨V1,h1,k1,hA⟩:=ZA hr h;obtain⟨c,h2,k2,hB⟩:=Z6e hr hA;split at hB
   ·rename_i fi;obtain⟨cs,⟨vs,q1,rfl⟩,q3⟩:=h1;have q1:vs=[]:=q1;subst q1;have q3:a.eval x = .func (.func fi) #[] #[]:=q3;obtain⟨σ,hσ,hev⟩:=hr.st.evs (x :: args.toList);have hfx:=hev x (by simp);rw[q3]at hfx;have hargs:args.toList.map (ev σ)=(args.toList.map a.eval).map some:=by
     rw[List.map_map];exact List.map_congr_left λy hy=>hev y (by simp[hy])
    exact Zcp hC hr hU hX hn hd (λhen=>ZO hσ _ hen hfx hargs) (λy hv=>Zlc hσ _ hv hfx hargs) h2 k2 hB
   ·exact hB.elim
  | invoke r m =>
   simp only[ZM]at h;obtain⟨V1,h1,k1,hA⟩:=ZA hr h;obtain⟨c,h2,k2,hB⟩:=Z6e hr hA;split at hB
   ·rename_i t x;split at hB
    ·rename_i fi hfi;obtain⟨cs,⟨cc,q1,rfl⟩,q3⟩:=h1;have q3:a.eval r = .iface t (x.val cc):=q3;obtain⟨σ,hσ,hev⟩:=hr.st.evs (r :: args.toList);have hfx:=hev r (by simp);rw[q3]at hfx;have hargs:args.toList.map (ev σ)=(args.toList.map a.eval).map some:=by
      rw[List.map_map];exact List.map_congr_left λy hy=>hev y (by simp[hy])
     exact Zcp hC hr hU hX hn (c:=.cons x c) (vals:=x.val cc :: args.toList.map a.eval) hd (λhen=>ZXp hσ _ (λw=>hC.m t m fi hfi _ w) hfx hargs (hen _ w)) (λy hv=>ZXp hσ _ (λw=>hC.m t m fi hfi _ w) hfx hargs (by
      have:=hv w;exact this)) ⟨cc,_,rfl,q1,h2⟩ ⟨k1,k2⟩ hB
    ·exact hB.elim
   ·exact hB.elim
  | builtin b =>
   cases b with
   | len =>
    simp only[ZM]at h;split at h
    ·rename_i x t hx ht;have hx:args = #[x]:=by apply Array.ext';exact hx
     have ht:ats = #[t]:=by apply Array.ext';exact ht
     subst hx ht;obtain⟨V1,h1,k1,hA⟩:=ZA hr h;obtain⟨m,q1,q2,hB⟩:=lenE_ok (d:=d) (ty:=ty) (pos:=pos) (aft:=aft) (g:=g) hr h1 hA;exact ZZ hr hU q1 hd hX (ZMa q2) trivial hB
    ·exact h.elim
   | append =>
    simp only[ZM]at h;split at h
    ·rename_i x y t t' hx ht;split at h
     ·rename_i hb;have hb:=eQ hb;subst hb;have hx:args = #[x,y]:=by apply Array.ext';exact hx
      have ht:ats = #[t,t]:=by apply Array.ext';exact ht
      subst hx ht;obtain⟨V1,h1,k1,hA⟩:=ZA hr h;obtain⟨V2,h2,k2,hB⟩:=ZA hr hA;exact appE_ok hr hU hX hn rfl hd h1 h2 k1 k2 hB
     ·exact h.elim
    ·exact h.elim
   | max =>
    simp only[ZM]at h;split at h
    ·rename_i x y hx;have hx:args = #[x,y]:=by apply Array.ext';exact hx
     subst hx;obtain⟨V1,h1,k1,hA⟩:=ZA hr h;obtain⟨V2,h2,k2,hB⟩:=ZA hr hA;obtain⟨κ,i,rfl,hC'⟩:=Zdb hB;obtain⟨κ',j,rfl,hD⟩:=Zdb hC';split at hD
     ·rename_i hk;have hk:=ZAc hk;subst hk;obtain⟨e1,r1⟩:=Zza h1;obtain⟨e2,r2⟩:=Zza h2;obtain⟨σ,hσ,ev1,ev2⟩:=hr.st.ev2 x y;rw[e1]at ev1;rw[e2]at ev2;exact ZZ hr hU (run_max hσ ev1 ev2) hd hX (ZMa (ZLe r1 r2)) trivial hD
     ·exact hD.elim
    ·rename_i x y z hx;have hx:args = #[x,y,z]:=by apply Array.ext';exact hx
     subst hx;obtain⟨V1,h1,k1,hA⟩:=ZA hr h;obtain⟨V2,h2,k2,hB⟩:=ZA hr hA;obtain⟨V3,h3,k3,hB'⟩:=ZA hr hB;obtain⟨κ,i,rfl,hC'⟩:=Zdb hB';obtain⟨κ',j,rfl,hD⟩:=Zdb hC';obtain⟨κ'',q,rfl,hE⟩:=Zdb hD;split at hE
     ·rename_i hk hk2;have hk:=ZAc hk;subst hk;have hk2:=ZAc hk2;subst hk2;obtain⟨e1,r1⟩:=Zza h1;obtain⟨e2,r2⟩:=Zza h2;obtain⟨e3,r3⟩:=Zza h3;obtain⟨σ,hσ,ev1,ev2,ev3⟩:=hr.st.ev3 x y z;rw[e1]at ev1;rw[e2]at ev2;rw[e3]at ev3;exact ZZ hr hU (Zcw hσ ev1 ev2 ev3) hd hX (ZMa (ZLe (ZLe r1 r2) r3)) trivial hE
     ·exact hE.elim
    ·rename_i x1 x2 x3 x4 x5 x6 hx;have hx:args = #[x1,x2,x3,x4,x5,x6]:=by apply Array.ext';exact hx
     subst hx;obtain⟨V1,h1,k1,hA⟩:=ZA hr h;obtain⟨V2,h2,k2,hA⟩:=ZA hr hA;obtain⟨V3,h3,k3,hA⟩:=ZA hr hA;obtain⟨V4,h4,k4,hA⟩:=ZA hr hA;obtain⟨V5,h5,k5,hA⟩:=ZA hr hA;obtain⟨V6,h6,k6,hA⟩:=ZA hr hA;obtain⟨κ,i1,rfl,hB1⟩:=Zdb hA;obtain⟨κ2,i2,rfl,hB2⟩:=Zdb hB1;obtain⟨κ3,i3,rfl,hB3⟩:=Zdb hB2;obtain⟨κ4,i4,rfl,hB4⟩:=Zdb hB3;obtain⟨κ5,i5,rfl,hB5⟩:=Zdb hB4;obtain⟨κ6,i6,rfl,hB6⟩:=Zdb hB5;split at hB6
     ·have g2:=ZAc (show kEq κ κ2=true by assumption)
      cases g2
      have g3:=ZAc (show kEq κ κ3=true by assumption)
      cases g3
      have g4:=ZAc (show kEq κ κ4=true by assumption)
      cases g4
      have g5:=ZAc (show kEq κ κ5=true by assumption)
      cases g5
      have g6:=ZAc (show kEq κ κ6=true by assumption)
      cases g6
      obtain⟨e1,r1⟩:=Zza h1;obtain⟨e2,r2⟩:=Zza h2;obtain⟨e3,r3⟩:=Zza h3;obtain⟨e4,r4⟩:=Zza h4;obtain⟨e5,r5⟩:=Zza h5;obtain⟨e6,r6⟩:=Zza h6;obtain⟨σ,hσ,ev1,ev2,ev3,ev4,ev5,ev6⟩:=hr.st.ev6 x1 x2 x3 x4 x5 x6;rw[e1]at ev1;rw[e2]at ev2;rw[e3]at ev3;rw[e4]at ev4;rw[e5]at ev5;rw[e6]at ev6;exact ZZ hr hU (ZUy hσ ev1 ev2 ev3 ev4 ev5 ev6) hd hX (ZMa (ZLe (ZLe (ZLe (ZLe (ZLe r1 r2) r3) r4) r5) r6)) trivial hB6
     ·exact hB6.elim
    ·exact h.elim
   | min =>
    simp only[ZM]at h;split at h
    ·rename_i x y hx;have hx:args = #[x,y]:=by apply Array.ext';exact hx
     subst hx;obtain⟨V1,h1,k1,hA⟩:=ZA hr h;obtain⟨V2,h2,k2,hB⟩:=ZA hr hA;obtain⟨κ,i,rfl,hC'⟩:=Zdb hB;obtain⟨κ',j,rfl,hD⟩:=Zdb hC';split at hD
     ·rename_i hk;have hk:=ZAc hk;subst hk;obtain⟨e1,r1⟩:=Zza h1;obtain⟨e2,r2⟩:=Zza h2;obtain⟨σ,hσ,ev1,ev2⟩:=hr.st.ev2 x y;rw[e1]at ev1;rw[e2]at ev2;exact ZZ hr hU (run_min hσ ev1 ev2) hd hX (ZMa (min_inR r1 r2)) trivial hD
     ·exact hD.elim
    ·exact h.elim
   | _=>exact h.elim
 | lookup t x k q =>
  simp only[ZM]at h;obtain⟨V1,h1,k1,hA⟩:=ZA hr h;obtain⟨V2,h2,k2,hB⟩:=ZA hr hA;split at hB
  ·rename_i m s kt et ht;split at hB
   ·rename_i hk he;split at hB
    ·rename_i z hz;obtain⟨σ,hσ,ev1,ev2⟩:=hr.st.ev2 x k;obtain⟨cs,hcs,hq⟩:=Z7c h1;have hcs:rMp.rel v cs m:=hcs;obtain⟨y0,rfl⟩:∃ y0,cs=[y0]:=by
      have:=rMp.len hcs
      match cs,this with
      | [y0],_=>exact⟨y0,rfl⟩
     obtain⟨e2,_⟩:=ZZc h2;rw[e2]at ev2;rw[show a.eval x=y0 from hq]at ev1;obtain⟨hy,hz0⟩:=ZCn hz;have hrun:=ZWu (s:=s) ht hk (hy w) hσ.vin hcs;refine ZZ hr hU (y:=.tuple #[.int .i64 ((Zya m s).getD z),.bool (Zya m s).isSome]) ?_ hd hX (x:=.tup (.cons (.data (.int .i64) ((Zya m s).getD z)) (.cons (.data .bool (Zya m s).isSome) .nl))) ?_ ⟨trivial,trivial,trivial⟩ hB
     ·simp[execOp,hσ.eval ev1,hσ.eval ev2,hrun]
     ·exact⟨_,⟨[.int .i64 _],[.bool _],rfl,⟨rfl,ZLr hcs s (by rw[hz0];exact Zva.2 ⟨by omega,by omega⟩)⟩,⟨[.bool _],[],rfl,rfl,rfl⟩⟩,rfl⟩
    ·exact hB.elim
   ·rename_i hk he;split at hB
    ·rename_i z hz;obtain⟨σ,hσ,ev1,ev2⟩:=hr.st.ev2 x k;obtain⟨cs,hcs,hq⟩:=Z7c h1;have hcs:rMp.rel v cs m:=hcs;obtain⟨y0,rfl⟩:∃ y0,cs=[y0]:=by
      have:=rMp.len hcs
      match cs,this with
      | [y0],_=>exact⟨y0,rfl⟩
     obtain⟨e2,_⟩:=ZZc h2;rw[e2]at ev2;rw[show a.eval x=y0 from hq]at ev1;obtain⟨hy,hz0⟩:=ZCn hz;have hrun:=Zqy (s:=s) ht hk (hy w) hσ.vin hcs;refine ZZ hr hU (y:=.int .i64 ((Zya m s).getD z)) ?_ hd hX (x:=.data (.int .i64) ((Zya m s).getD z)) (ZMa (ZLr hcs s (by rw[hz0];exact Zva.2 ⟨by omega,by omega⟩))) trivial hB;simp[execOp,hσ.eval ev1,hσ.eval ev2,hrun]
    ·exact hB.elim
   ·exact hB.elim
  ·rename_i u s kt et ht;split at hB
   ·rename_i z hk he hz;obtain⟨e,hle,hB⟩:=hB;obtain⟨kk,st,L⟩:=e;obtain⟨σ,hσ,ev1,ev2⟩:=hr.st.ev2 x k;obtain⟨e2,_⟩:=ZZc h2;rw[e2]at ev2;obtain⟨cs,⟨y0,rfl,_,hy0⟩,hq⟩:=h1;have hq:a.eval x=y0:=hq;rw[hq]at ev1;have hy0:=hy0 _ hle
    cases L with
    | mp m =>
     have hy0:mpH (γ u) m y0:=hy0;obtain⟨hy,hz0⟩:=ZCn hz;obtain⟨r1,r2,r3⟩:=mp_look hr hle hy0 ht hk (hy w) (by rw[hz0];exact Zva.2 ⟨by omega,by omega⟩) s
     cases q with
     | true =>
      refine ZZ hr hU (y:=.tuple #[.int .i64 ((Zya m s).getD z),.bool (Zya m s).isSome]) ?_ hd hX (x:=.tup (.cons (.data (.int .i64) ((Zya m s).getD z)) (.cons (.data .bool (Zya m s).isSome) .nl))) ?_ ⟨trivial,trivial,trivial⟩ hB
      ·simp[execOp,hσ.eval ev1,hσ.eval ev2,r1]
      ·exact⟨_,⟨[.int .i64 _],[.bool _],rfl,⟨rfl,r3⟩,⟨[.bool _],[],rfl,rfl,rfl⟩⟩,rfl⟩
     | false =>
      refine ZZ hr hU (y:=.int .i64 ((Zya m s).getD z)) ?_ hd hX (x:=.data (.int .i64) ((Zya m s).getD z)) (ZMa r3) trivial hB;simp[execOp,hσ.eval ev1,hσ.eval ev2,r2]
    | _=>exact hB.elim
   ·exact hB.elim
  ·exact hB.elim
 | range t x =>
  simp only[ZM]at h;obtain⟨V1,h1,k1,hA⟩:=ZA hr h;split at hA
  ·rename_i s ht;obtain⟨σ,hσ,ev1⟩:=hr.st.ev1 x;obtain⟨e1,_⟩:=ZZc h1;rw[e1]at ev1;refine new_it hr hU hX hn hd ?_ hA;simp[execOp,hσ.eval ev1,run_range_string w t (Zg s) ht];rfl
  ·exact hA.elim
 | next x q =>
  cases q with
  | false=>simp only[ZM]at h;exact h.elim
  | true =>
   simp only[ZM]at h;obtain⟨V1,h1,k1,hA⟩:=ZA hr h;split at hA
   ·rename_i u;obtain⟨e,he,hA⟩:=hA;obtain⟨kk,st,L⟩:=e;have hkk:kk=u:=(Zk he).2;subst hkk;obtain⟨σ,hσ,ev1⟩:=hr.st.ev1 x;obtain⟨y0,hy0,_,hy⟩:=Z6 h1 (λ_ e=>by cases e) rfl rfl;have hy0:a.eval x=y0:=(List.cons.inj hy0).1;rw[hy0]at ev1;have hy:=hy _ he
    cases L with
    | it s p =>
     obtain⟨b,g1,rfl⟩:=hy;obtain⟨es,E',q1,q2,_,q3,_⟩:=hr.del he;obtain⟨b',g2,rfl⟩:=q1;have g2:γ kk = .box b':=g2;rw[g1]at g2;cases g2;have hs:St N w0 v0 [] (.it b s p :: E'.flatten) v a w:=hr.st.perm q3;have hb:w.heap[b]? = some (.stringIter ⟨s.toArray⟩ p):=(hs.loc _ List.mem_cons_self).1;simp only at hA;obtain⟨hT,hF⟩:=hA;by_cases hp:p<s.length
     ·obtain⟨c,hc,hA⟩:=hT (dT hp);obtain⟨cb,c1,c2,rfl,c4⟩:=ZWw hc;have hrun:=ZTu (P:=C.P) (ty:=ty) hb c1 c2;have hr':=hr.upd hX (hr.ul _ (Zk he).1).1 q2 (hs.setIt (p':=p+1)) (Le.upd hr he (Zb.le_refl _) (λ_ _=>rfl) (show γ kk=γ kk from rfl)) (L':=.it s (p+1)) (λ_ _=>rfl) ⟨b,g1,rfl⟩ (List.Perm.refl _) trivial;refine fin (x:=.tup (.cons (.data .bool true) (.cons (.data (.int .i64) (p:Int)) (.cons (.data (.int .i32) (cb.toNat:Int)) .nl)))) (y:=.tuple #[.bool true,.int .i64 p,.int .i32 cb.toNat]) (hr'.mono hU λ_ h=>h) ?_ hd hX ⟨_,⟨[.bool true],_,rfl,rfl,[.int .i64 p],_,rfl,⟨rfl,?_⟩,[.int .i32 cb.toNat],[],rfl,⟨rfl,?_⟩,rfl⟩,rfl⟩ ⟨trivial,trivial,trivial,trivial⟩ hA
      ·simp[execOp,hσ.eval ev1,hrun]
      ·exact Zva.2 ⟨by omega,by unfold maxLen at c4;omega⟩
      ·show inR .i32 (cb.toNat:Int);have:cb.toNat<128:=c2;simp[inR,IntKind.min,IntKind.max,IntKind.signed,IntKind.bits];omega
     ·have hA:=hF (dFq hp);have hrun:=Zow (P:=C.P) (ty:=ty) hb hp;refine fin (x:=.tup (.cons (.data .bool false) .nl)) (y:=.tuple #[.bool false]) (hr.mono hU λ_ h=>h) ?_ hd hX ⟨_,⟨[.bool false],[],rfl,rfl,rfl⟩,rfl⟩ ⟨trivial,trivial⟩ hA;simp[execOp,hσ.eval ev1,hrun]
    | _=>exact hA.elim
   ·exact hA.elim
 | makeMap t rs =>
  cases rs with
  | some _=>simp only[ZM]at h;exact h.elim
  | none =>
   simp only[ZM]at h;refine new_map hr hU hX hn hd ?_ h;rfl
 | mapUpdate t x k y =>
  simp only[ZM]at h
  cases d with
  | some _=>exact h.elim
  | none =>
  simp only at h;obtain⟨V1,h1,k1,hA⟩:=ZA hr h;obtain⟨V2,h2,k2,hB⟩:=ZA hr hA;obtain⟨V3,h3,k3,hC⟩:=ZA hr hB;split at hC
  ·rename_i u s i kt et ht;split at hC
   ·rename_i hk;obtain⟨e,hle,hC⟩:=hC;obtain⟨kk,st,L⟩:=e;obtain⟨σ,hσ,ev1,ev2,ev3⟩:=hr.st.ev3 x k y;obtain⟨e2,_⟩:=ZZc h2;obtain⟨e3,hi⟩:=Zza h3;rw[e2]at ev2;rw[e3]at ev3;obtain⟨cs,⟨y0,rfl,_,hy0⟩,hq⟩:=h1;have hq:a.eval x=y0:=hq;rw[hq]at ev1;have hy0:=hy0 _ hle
    cases L with
    | mp m =>
     have hy0:mpH (γ u) m y0:=hy0;obtain⟨m',hp,hC⟩:=hC;obtain⟨m0,rfl,hg,rfl⟩:=ZNx hp;obtain⟨w',ℓ',r1,r2⟩:=mp_put hr hX hle hy0 ht hk hi hg;refine ZSd r2 hU rfl ?_ hC;simp[execOp,hσ.eval ev1,hσ.eval ev2,hσ.eval ev3,r1]
    | _=>exact hC.elim
   ·exact hC.elim
  ·exact hC.elim
 | _=>exact h.elim
end
end Go.Eng
namespace Go.Eng
open Go.RowKit
def Old (m:Nat) (f:Fr) (l:Lo) (f':Fr) (l':Lo):Prop:=(∀ t e,lkE f' t=some e→e.st<m→lkE f t=some e)∧∀ u e,lkE l' u=some e→e.st<m→lkE l u=some e
theorem Old.refl {m:Nat} {f:Fr} {l:Lo}:Old m f l f l:=⟨λ_ _ h _=>h,λ_ _ h _=>h⟩
theorem Old.trans {m m':Nat} {f f' f'':Fr} {l l' l'':Lo} (h:Old m f l f' l') (k:Old m' f' l' f'' l'') (hm:m≤m'):Old m f l f'' l'' :=
 ⟨λt e he hs=>h.1 t e (k.1 t e he (by omega)) hs,λt e he hs=>h.2 t e (k.2 t e he (by omega)) hs⟩
theorem Old.mono {m m':Nat} {f f':Fr} {l l':Lo} (h:Old m' f l f' l') (hm:m≤m'):Old m f l f' l':=⟨λt e he hs=>h.1 t e he (by omega),λt e he hs=>h.2 t e he (by omega)⟩
theorem Old.put {m n:Nat} {f:Fr} {l:Lo} {d:Nat} {x:V} (h:m≤n):Old m f l (⟨d,n,x⟩ :: f) l:=by
 refine⟨λt e he hs=>?_,λ_ _ h _=>h⟩;rw[ZL]at he;split at he
 ·cases he;exact absurd hs (by show ¬ n<m;omega)
 ·exact he
theorem Old.dup {m:Nat} {f:Fr} {l:Lo} {t:Nat} {e:En V} (h:lkE f t=some e):Old m f l (e :: f) l:=by
 obtain⟨_,hk⟩:=Zk h;refine⟨λt' e' he _=>?_,λ_ _ h _=>h⟩;rw[ZL]at he;split at he
 ·rename_i hk';cases he;rw[← hk',hk];exact h
 ·exact he
theorem ZQd {ρ:Type} {n m:Nat} (hm:m≤n) {f0:Fr} {l0:Lo}:∀ {e:Ev ρ} {f:Fr} {l:Lo} {K:ρ→Fr→Lo→Prop},Old m f0 l0 f l→(l.map En.k).Nodup→Zj n e f l K→Zj n e f l λx f' l'=>K x f' l'∧Old m f0 l0 f' l':=by
 intro e;have wr:∀ {f:Fr} {l:Lo} {u:Nat} {L:LV},Old m f0 l0 f l→(l.map En.k).Nodup→Old m f0 l0 f (⟨u,n,L⟩ :: era l u)∧((⟨u,n,L⟩ :: era l u:Lo).map En.k).Nodup:=by
  intro f l u L ho hn;obtain⟨n1,n2⟩:=Zzb (t:=u) hn;refine⟨⟨ho.1,λk e he hs=>?_⟩,List.nodup_cons.2 ⟨n2,n1⟩⟩;rw[ZL]at he;split at he
  ·cases he;exact absurd hs (by show ¬ n<m;omega)
  ·rw[ZVb hn]at he;split at he
   ·cases he
   ·exact ho.2 k e he hs
 induction e with
 | fail=>intro f l K ho hn h;exact h
 | done x=>intro f l K ho hn h;exact⟨h,ho⟩
 | rdS t q ih=>intro f l K ho hn h;obtain⟨x,hx,h⟩:=h;exact⟨x,hx,ih _ ho hn h⟩
 | rdL u q ih=>intro f l K ho hn h;obtain⟨x,hx,h⟩:=h;exact⟨x,hx,ih _ _ ho hn h⟩
 | wrS t x e ih=>intro f l K ho hn h;exact ih (ho.trans (Old.put hm) (Nat.le_refl m)) hn h
 | wrL u L e ih=>intro f l K ho hn h;exact ih (wr ho hn).1 (wr ho hn).2 h
 | new u L e ih =>
  intro f l K ho hn h;refine⟨h.1,ih ⟨ho.1,λk e he hs=>?_⟩ (List.nodup_cons.2 ⟨Zof h.1,hn⟩) h.2⟩;rw[ZL]at he;split at he
  ·cases he;exact absurd hs (by show ¬ n<m;omega)
  ·exact ho.2 k e he hs
 | del u e ih =>
  intro f l K ho hn h;refine ih ⟨ho.1,λk e he hs=>?_⟩ (Zzb hn).1 h;rw[ZVb hn]at he;split at he
  ·cases he
  ·exact ho.2 k e he hs
 | bind x q ih=>intro f l K ho hn h;obtain⟨x,hx,h⟩:=h;exact⟨x,hx,ih _ ho hn h⟩
 | test t e1 e2 i1 i2 =>
  intro f l K ho hn h;obtain⟨s,b,h1,h2,h3⟩:=h;have hd:=ho.trans (Old.dup (m:=m) (l:=l) h1) (Nat.le_refl m);exact⟨s,b,h1,λe=>i1 hd hn (h2 e),λe=>i2 hd hn (h3 e)⟩
 | alt b e1 e2 i1 i2=>intro f l K ho hn h;exact⟨λe=>i1 ho hn (h.1 e),λe=>i2 ho hn (h.2 e)⟩
section
variable {N:Nat} {G:V→Value→Prop} {w0:Base} {v0:Zb} {U X:Nat→Prop} {f:Fr} {l:Lo} {a:Act} {w:World} {γ:Nat→Gh} {v:Zb} {ℓ:List Loc} {n:Nat}
def GoodG (P:Program) (ops:Array Oper) (N:Nat) (G:V→Value→Prop) (w0:Base) (v0:Zb) (X:Nat→Prop) (o:Oper) (a:Act) (w:World) (Post:Unit→Fr→Lo→Prop):Prop :=
 (Region.wanted o (yielded ops a.tmps)=true∧Z8 P N G w0 v0 X o a w Post)∨(Region.wanted o (yielded ops a.tmps)=false∧∃ f' l',Post () f' l'∧Rel N G w0 v0 X f' l' (a.put o.dst undef) w)
theorem Zxj (hr:RelX N G w0 v0 U X f l a w γ v ℓ) (hU:∀ k,U k→X k) (hX:X n) {o:Oper} {Post:Unit→Fr→Lo→Prop} (hd:∀ k,o.dst=some k→k<N) (h:Zj n (Zmg o) f l Post):∃ f' l',Post () f' l'∧Rel N G w0 v0 X f' l' (a.put o.dst undef) w:=by
 unfold Zmg at h
 cases hdd:o.dst with
 | none=>rw[hdd]at h;exact⟨f,l,h,γ,v,ℓ,hr.mono hU λ_ h=>h⟩
 | some d=>rw[hdd]at h;exact⟨_,l,h,γ,v,ℓ,(hr.mono hU λ_ h=>h).put (hd d hdd) (x:=.undef) ⟨[undef],rfl,rfl⟩ trivial hX⟩
theorem Zqh {C:Cf} (hC:CfOK C) {ops:Array Oper} (hr:RelX N G w0 v0 U X f l a w γ v ℓ) (hU:∀ k,U k→X k) (hX:X n) (hn:¬ U n) {o:Oper} {Post:Unit→Fr→Lo→Prop} (hds:∀ o ∈ ops.toList,∀ k,o.dst=some k→k<N) (hd:∀ k,o.dst=some k→k<N)
  (h:Zj n (gop C ops.toList n o) f l Post):GoodG C.P ops N G w0 v0 X o a w Post:=by
 unfold gop at h;split at h
 ·rename_i hg;exact .inl ⟨ZRa hg,ZKm hC hr hU hX hn hd h⟩
 ·rename_i j want hg;split at h
  ·rename_i q hq;split at h
   ·rename_i t ht;have htN:t<N:=hds q (mG hq) t ht;have hgd:(ops[j]?).bind (·.dst)=some t:=by rw[← Array.getElem?_toList,hq];exact ht
    obtain⟨e,he,h⟩:=h;obtain⟨σ,hσ,hev⟩:=hr.st.evs [.tmp t];have hl:look σ t=some (a.tmps.getD t undef):=hev (.tmp t) (by simp);have hrv:=hr.fr t e he;obtain⟨ek,est,ex⟩:=e;have hk:ek=t:=(Zk he).2;subst hk
    cases ex with
    | undef =>
     obtain⟨cs,h1,h2⟩:=hrv;have h1:cs=[undef]:=h1;subst h1;have h2:a.tmps.getD ek undef=undef:=h2;rw[h2]at hl;exact .inr ⟨ZVd hσ hg hgd hl htN,Zxj hr hU hX hd h⟩
    | data tt b =>
     cases tt with
     | bool =>
      have h2:=Z7e hrv;have h2:a.tmps.getD ek undef = .bool b:=h2;rw[h2]at hl
      cases want with
      | true =>
       obtain⟨s,b',h3,h4,h5⟩:=h;rw[he]at h3
       cases h3
       cases b with
       | true=>exact .inl ⟨ZQe hσ hg hgd hl htN,ZKm hC (RelX.dup hr he) hU hX hn hd (h4 rfl)⟩
       | false=>exact .inr ⟨Zhi hσ hg hgd hl htN,Zxj (RelX.dup hr he) hU hX hd (h5 rfl)⟩
      | false =>
       obtain⟨s,b',h3,h4,h5⟩:=h;rw[he]at h3
       cases h3
       cases b with
       | true=>exact .inr ⟨Zhi hσ hg hgd hl htN,Zxj (RelX.dup hr he) hU hX hd (h4 rfl)⟩
       | false=>exact .inl ⟨ZQe hσ hg hgd hl htN,ZKm hC (RelX.dup hr he) hU hX hn hd (h5 rfl)⟩
     | _=>exact h.elim
    | _=>exact h.elim
   ·exact h.elim
  ·exact h.elim
theorem GoodG.list {P:Program} {ops:Array Oper} {Q:Exit→Act→World→Prop} {o:Oper} {rest:List Oper} {Post:Unit→Fr→Lo→Prop} (h:GoodG P ops N G w0 v0 X o a w Post)
  (k:∀ f' l' a' w',Post () f' l'→Rel N G w0 v0 X f' l' a' w'→wpList P ops Q rest a' w'):wpList P ops Q (o :: rest) a w:=by
 rcases h with ⟨hw,hg⟩ | ⟨hw,f',l',h1,h2⟩
 ·exact ZQc hw (ZRf hg λx w' ⟨f',l',h1,h2⟩=>k f' l' _ w' h1 h2)
 ·unfold wpList;rw[iN (by rw[hw];decide)];exact k f' l' _ w h1 h2
end
end Go.Eng
namespace Go.Eng
open Go.RowKit
inductive Et where
 | rS (t:Nat) (e:En V)
 | rL (u:Nat) (e:En LV)
 | wS (e:En V)
 | dup (e:En V)
 | wL (e:En LV)
 | nL (e:En LV)
 | dL (u:Nat)
def okT:List Et→Fr→Lo→Prop
 | [],_,_=>True
 | .rS t e :: τ,f,l=>lkE f t=some e∧okT τ f l
 | .rL u e :: τ,f,l=>lkE l u=some e∧okT τ f l
 | .wS e :: τ,f,l=>okT τ (e :: f) l
 | .dup e :: τ,f,l=>lkE f e.k=some e∧okT τ (e :: f) l
 | .wL e :: τ,f,l=>okT τ f (e :: era l e.k)
 | .nL e :: τ,f,l=>lkE l e.k=none∧okT τ f (e :: l)
 | .dL u :: τ,f,l=>okT τ f (era l u)
def Zoc:List Et→Fr→Fr
 | [],f=>f
 | .wS e :: τ,f=>Zoc τ (e :: f)
 | .dup e :: τ,f=>Zoc τ (e :: f)
 | _ :: τ,f=>Zoc τ f
def Zhc:List Et→Lo→Lo
 | [],l=>l
 | .wL e :: τ,l=>Zhc τ (e :: era l e.k)
 | .nL e :: τ,l=>Zhc τ (e :: l)
 | .dL u :: τ,l=>Zhc τ (era l u)
 | _ :: τ,l=>Zhc τ l
def rdS:List Et→Nat→Prop
 | [],_=>False
 | .rS t _ :: τ,k=>k=t∨rdS τ k
 | .dup e :: τ,k=>k=e.k∨rdS τ k
 | _ :: τ,k=>rdS τ k
def rdL:List Et→Nat→Prop
 | [],_=>False
 | .rL u _ :: τ,k=>k=u∨rdL τ k
 | .nL e :: τ,k=>k=e.k∨rdL τ k
 | _ :: τ,k=>rdL τ k
def Zmb:List Et→Nat→Option (Option (En V))
 | [],_=>none
 | .wS e :: τ,t=>match Zmb τ t with
  | some z=>some z
  | none=>if e.k=t then some (some e) else none
 | _ :: τ,t=>Zmb τ t
def ZBa:List Et→Nat→Option (Option (En LV))
 | [],_=>none
 | .wL e :: τ,t=>match ZBa τ t with
  | some z=>some z
  | none=>if e.k=t then some (some e) else none
 | .nL e :: τ,t=>match ZBa τ t with
  | some z=>some z
  | none=>if e.k=t then some (some e) else none
 | .dL u :: τ,t=>match ZBa τ t with
  | some z=>some z
  | none=>if u=t then some none else none
 | _ :: τ,t=>ZBa τ t
def fpT:List Et→Fp→Fp
 | [],p=>p
 | .rS t _ :: τ,p=>fpT τ ⟨bit p.rs t,p.ws,p.rl,p.wl⟩
 | .rL u _ :: τ,p=>fpT τ ⟨p.rs,p.ws,bit p.rl u,p.wl⟩
 | .wS e :: τ,p=>fpT τ ⟨p.rs,bit p.ws e.k,p.rl,p.wl⟩
 | .dup e :: τ,p=>fpT τ ⟨bit p.rs e.k,p.ws,p.rl,p.wl⟩
 | .wL e :: τ,p=>fpT τ ⟨p.rs,p.ws,p.rl,bit p.wl e.k⟩
 | .nL e :: τ,p=>fpT τ ⟨p.rs,p.ws,bit p.rl e.k,bit p.wl e.k⟩
 | .dL u :: τ,p=>fpT τ ⟨p.rs,p.ws,p.rl,bit p.wl u⟩
def Tr {ρ:Type} (n:Nat):Ev ρ→List Et→ρ→Prop
 | .fail,_,_=>False
 | .done r,τ,x=>τ=[]∧x=r
 | .rdS t k,τ,x=>∃ e τ',τ = .rS t e :: τ'∧Tr n (k e.x) τ' x
 | .rdL u k,τ,x=>∃ e τ',τ = .rL u e :: τ'∧Tr n (k e.st e.x) τ' x
 | .wrS t v e,τ,x=>∃ τ',τ = .wS ⟨t,n,v⟩ :: τ'∧Tr n e τ' x
 | .wrL u L e,τ,x=>∃ τ',τ = .wL ⟨u,n,L⟩ :: τ'∧Tr n e τ' x
 | .new u L e,τ,x=>∃ τ',τ = .nL ⟨u,n,L⟩ :: τ'∧Tr n e τ' x
 | .del u e,τ,x=>∃ τ',τ = .dL u :: τ'∧Tr n e τ' x
 | .bind y k,τ,x=>∃ z,y=some z∧Tr n (k z) τ x
 | .test t e1 e2,τ,x=>∃ s b τ',τ = .dup ⟨t,s,.data .bool b⟩ :: τ'∧(b=true→Tr n e1 τ' x)∧(b=false→Tr n e2 τ' x)
 | .alt b e1 e2,τ,x=>(b=true→Tr n e1 τ x)∧(b=false→Tr n e2 τ x)
theorem ZXx {ρ α:Type} {n:Nat} {r:α}:∀ {e:Ev ρ} {f:Fr} {l:Lo} {p:Fp} {K:ρ→Fr→Lo→Fp→Option α},ZJb n e f l p K=some r→∃ x τ,Tr n e τ x∧okT τ f l∧K x (Zoc τ f) (Zhc τ l) (fpT τ p)=some r:=by
 intro e
 induction e with
 | fail=>intro f l p K h;cases h
 | done x=>intro f l p K h;exact⟨x,[],⟨rfl,rfl⟩,trivial,h⟩
 | rdS t k ih =>
  intro f l p K h;simp only[ZJb]at h;split at h
  ·rename_i e he;obtain⟨x,τ,h1,h2,h3⟩:=ih _ h;exact⟨x,.rS t e :: τ,⟨e,τ,rfl,h1⟩,⟨he,h2⟩,h3⟩
  ·cases h
 | rdL u k ih =>
  intro f l p K h;simp only[ZJb]at h;split at h
  ·rename_i e he;obtain⟨x,τ,h1,h2,h3⟩:=ih _ _ h;exact⟨x,.rL u e :: τ,⟨e,τ,rfl,h1⟩,⟨he,h2⟩,h3⟩
  ·cases h
 | wrS t v e ih=>intro f l p K h;obtain⟨x,τ,h1,h2,h3⟩:=ih h;exact⟨x,.wS ⟨t,n,v⟩ :: τ,⟨τ,rfl,h1⟩,h2,h3⟩
 | wrL u L e ih=>intro f l p K h;obtain⟨x,τ,h1,h2,h3⟩:=ih h;exact⟨x,.wL ⟨u,n,L⟩ :: τ,⟨τ,rfl,h1⟩,h2,h3⟩
 | new u L e ih =>
  intro f l p K h;simp only[ZJb]at h;split at h
  ·rename_i he;obtain⟨x,τ,h1,h2,h3⟩:=ih h;exact⟨x,.nL ⟨u,n,L⟩ :: τ,⟨τ,rfl,h1⟩,⟨he,h2⟩,h3⟩
  ·cases h
 | del u e ih=>intro f l p K h;obtain⟨x,τ,h1,h2,h3⟩:=ih h;exact⟨x,.dL u :: τ,⟨τ,rfl,h1⟩,h2,h3⟩
 | bind y k ih =>
  intro f l p K h;obtain⟨z,hz,h⟩:=ZG h;obtain⟨x,τ,h1,h2,h3⟩:=ih _ h;exact⟨x,τ,⟨z,hz,h1⟩,h2,h3⟩
 | test t e1 e2 i1 i2 =>
  intro f l p K h;simp only[ZJb]at h;split at h
  ·rename_i k s b hx;obtain⟨_,hk⟩:=Zk hx;have hk:k=t:=hk;subst hk
   cases b with
   | true =>
    obtain⟨x,τ,h1,h2,h3⟩:=i1 h;exact⟨x,.dup ⟨k,s,.data .bool true⟩ :: τ,⟨s,true,τ,rfl,λ_=>h1,λe=>by cases e⟩,⟨hx,h2⟩,h3⟩
   | false =>
    obtain⟨x,τ,h1,h2,h3⟩:=i2 h;exact⟨x,.dup ⟨k,s,.data .bool false⟩ :: τ,⟨s,false,τ,rfl,(λe=>by cases e),λ_=>h1⟩,⟨hx,h2⟩,h3⟩
  ·cases h
 | alt b e1 e2 i1 i2 =>
  intro f l p K h
  cases b with
  | true =>
   obtain⟨x,τ,h1,h2,h3⟩:=i1 h;exact⟨x,τ,⟨λ_=>h1,λe=>by cases e⟩,h2,h3⟩
  | false =>
   obtain⟨x,τ,h1,h2,h3⟩:=i2 h;exact⟨x,τ,⟨(λe=>by cases e),λ_=>h1⟩,h2,h3⟩
theorem Zmm {ρ:Type} {n:Nat}:∀ {e:Ev ρ} {τ:List Et} {x:ρ} {f:Fr} {l:Lo},Tr n e τ x→okT τ f l→Zj n e f l λx' f' l'=>x'=x∧f'=Zoc τ f∧l'=Zhc τ l:=by
 intro e
 induction e with
 | fail=>intro τ x f l h k;exact h
 | done r=>intro τ x f l h k;obtain⟨rfl,rfl⟩:=h;exact⟨rfl,rfl,rfl⟩
 | rdS t q ih=>intro τ x f l h k;obtain⟨e,τ',rfl,h⟩:=h;exact⟨e,k.1,ih _ (τ:=τ') h k.2⟩
 | rdL u q ih=>intro τ x f l h k;obtain⟨e,τ',rfl,h⟩:=h;exact⟨e,k.1,ih _ _ (τ:=τ') h k.2⟩
 | wrS t v e ih=>intro τ x f l h k;obtain⟨τ',rfl,h⟩:=h;exact ih (τ:=τ') h k
 | wrL u L e ih=>intro τ x f l h k;obtain⟨τ',rfl,h⟩:=h;exact ih (τ:=τ') h k
 | new u L e ih=>intro τ x f l h k;obtain⟨τ',rfl,h⟩:=h;exact⟨k.1,ih (τ:=τ') h k.2⟩
 | del u e ih=>intro τ x f l h k;obtain⟨τ',rfl,h⟩:=h;exact ih (τ:=τ') h k
 | bind y q ih=>intro τ x f l h k;obtain⟨z,hz,h⟩:=h;exact⟨z,hz,ih _ h k⟩
 | test t e1 e2 i1 i2=>intro τ x f l h k;obtain⟨s,b,τ',rfl,h1,h2⟩:=h;exact⟨s,b,k.1,λe=>i1 (τ:=τ') (h1 e) k.2,λe=>i2 (τ:=τ') (h2 e) k.2⟩
 | alt b e1 e2 i1 i2=>intro τ x f l h k;exact⟨λe=>i1 (h.1 e) k,λe=>i2 (h.2 e) k⟩
theorem Zjd:∀ {τ:List Et} {f:Fr} {l:Lo} {t:Nat},okT τ f l→lkE (Zoc τ f) t=(Zmb τ t).getD (lkE f t)
 | [],_,_,_,_=>rfl
 | .rS _ _ :: τ,_,_,_,h=>Zjd (τ:=τ) h.2
 | .rL _ _ :: τ,_,_,_,h=>Zjd (τ:=τ) h.2
 | .wL _ :: τ,_,_,_,h=>Zjd (τ:=τ) h
 | .nL _ :: τ,_,_,_,h=>Zjd (τ:=τ) h.2
 | .dL _ :: τ,_,_,_,h=>Zjd (τ:=τ) h
 | .wS e :: τ,f,l,t,h=>by
  have:=Zjd (t:=t) (show okT τ (e :: f) l from h)
  simp only[Zoc,Zmb]
  rw[this,ZL]
  cases Zmb τ t with
  | some z=>rfl
  | none=>by_cases h:e.k=t <;> simp[h]
 | .dup e :: τ,f,l,t,h=>by
  have:=Zjd (t:=t) (show okT τ (e :: f) l from h.2)
  simp only[Zoc,Zmb]
  rw[this,ZL]
  congr 1
  by_cases hk:e.k=t
  ·rw[iP hk,← hk,h.1]
  ·rw[iN hk]
theorem Z2c:∀ {τ:List Et} {f:Fr} {l:Lo},(l.map En.k).Nodup→okT τ f l→((Zhc τ l).map En.k).Nodup∧∀ t,lkE (Zhc τ l) t=(ZBa τ t).getD (lkE l t)
 | [],_,_,hn,_=>⟨hn,λ_=>rfl⟩
 | .rS _ _ :: τ,_,_,hn,h=>Z2c (τ:=τ) hn h.2
 | .rL _ _ :: τ,_,_,hn,h=>Z2c (τ:=τ) hn h.2
 | .wS _ :: τ,_,_,hn,h=>Z2c (τ:=τ) hn h
 | .dup _ :: τ,_,_,hn,h=>Z2c (τ:=τ) hn h.2
 | .wL e :: τ,f,l,hn,h=>by
  obtain⟨n1,n2⟩:=Zzb (t:=e.k) hn
  obtain⟨k1,k2⟩:=Z2c (τ:=τ) (l:=e :: era l e.k) (List.nodup_cons.2 ⟨n2,n1⟩) h
  refine⟨k1,λt=>(k2 t).trans ?_⟩
  simp only[ZBa]
  rw[ZL,ZVb hn]
  cases ZBa τ t with
  | some z=>rfl
  | none=>by_cases hk:e.k=t <;> simp[hk]
 | .nL e :: τ,f,l,hn,h=>by
  obtain⟨k1,k2⟩:=Z2c (τ:=τ) (l:=e :: l) (List.nodup_cons.2 ⟨Zof h.1,hn⟩) h.2
  refine⟨k1,λt=>(k2 t).trans ?_⟩
  simp only[ZBa]
  rw[ZL]
  cases ZBa τ t with
  | some z=>rfl
  | none=>by_cases hk:e.k=t <;> simp[hk]
 | .dL u :: τ,f,l,hn,h=>by
  obtain⟨k1,k2⟩:=Z2c (τ:=τ) (l:=era l u) (Zzb hn).1 h
  refine⟨k1,λt=>(k2 t).trans ?_⟩
  simp only[ZBa]
  rw[ZVb hn]
  cases ZBa τ t with
  | some z=>rfl
  | none=>by_cases hk:u=t <;> simp[hk]
theorem Zge:∀ {τ:List Et} {f f2:Fr} {l l2:Lo},(l.map En.k).Nodup→(l2.map En.k).Nodup→okT τ f l→(∀ t,rdS τ t→lkE f t=lkE f2 t)→(∀ u,rdL τ u→lkE l u=lkE l2 u)→okT τ f2 l2
 | [],_,_,_,_,_,_,_,_,_=>trivial
 | .rS t e :: τ,_,_,_,_,n1,n2,h,k1,k2=>⟨(k1 t (.inl rfl)).symm.trans h.1,Zge n1 n2 h.2 (λt ht=>k1 t (.inr ht)) k2⟩
 | .rL u e :: τ,_,_,_,_,n1,n2,h,k1,k2=>⟨(k2 u (.inl rfl)).symm.trans h.1,Zge n1 n2 h.2 k1 λu hu=>k2 u (.inr hu)⟩
 | .wS e :: τ,f,f2,_,_,n1,n2,h,k1,k2=>Zge (τ:=τ) n1 n2 h (λt ht=>by
   rw[ZL,ZL]
   by_cases hk:e.k=t
   ·rw[iP hk,iP hk]
   ·rw[iN hk,iN hk];exact k1 t ht) k2
 | .dup e :: τ,f,f2,_,_,n1,n2,h,k1,k2=>⟨(k1 e.k (.inl rfl)).symm.trans h.1,Zge (τ:=τ) n1 n2 h.2 (λt ht=>by
   rw[ZL,ZL]
   by_cases hk:e.k=t
   ·rw[iP hk,iP hk]
   ·rw[iN hk,iN hk];exact k1 t (.inr ht)) k2⟩
 | .wL e :: τ,_,_,l,l2,n1,n2,h,k1,k2=>by
  obtain⟨a1,a2⟩:=Zzb (t:=e.k) n1
  obtain⟨b1,b2⟩:=Zzb (t:=e.k) n2
  refine Zge (τ:=τ) (l:=e :: era l e.k) (l2:=e :: era l2 e.k) (List.nodup_cons.2 ⟨a2,a1⟩) (List.nodup_cons.2 ⟨b2,b1⟩) h k1 λu hu=>?_
  rw[ZL,ZL]
  by_cases hk:e.k=u
  ·rw[iP hk,iP hk]
  ·rw[iN hk,iN hk,ZVb n1,ZVb n2,iN hk,iN hk];exact k2 u hu
 | .nL e :: τ,_,_,l,l2,n1,n2,h,k1,k2=>by
  have he:lkE l2 e.k=none:=(k2 e.k (.inl rfl)).symm.trans h.1
  refine⟨he,Zge (τ:=τ) (l:=e :: l) (l2:=e :: l2) (List.nodup_cons.2 ⟨Zof h.1,n1⟩) (List.nodup_cons.2 ⟨Zof he,n2⟩) h.2 k1 λu hu=>?_⟩
  rw[ZL,ZL]
  by_cases hk:e.k=u
  ·rw[iP hk,iP hk]
  ·rw[iN hk,iN hk];exact k2 u (.inr hu)
 | .dL u :: τ,_,_,l,l2,n1,n2,h,k1,k2=>by
  refine Zge (τ:=τ) (Zzb n1).1 (Zzb n2).1 h k1 λk hk=>?_
  rw[ZVb n1,ZVb n2]
  by_cases e:u=k
  ·rw[iP e,iP e]
  ·rw[iN e,iN e];exact k2 k hk
theorem ZCe {m k:Nat}:(bit m k).testBit k=true:=by
 show (m ||| 2^k).testBit k=true;rw[Nat.testBit_or,Nat.testBit_two_pow_self,Bool.or_true]
theorem ZRe {m k t:Nat} (h:m.testBit t=true):(bit m k).testBit t=true:=by
 show (m ||| 2^k).testBit t=true;rw[Nat.testBit_or,h,Bool.true_or]
structure Fp.le (p q:Fp):Prop where
 rs:∀ t,p.rs.testBit t=true→q.rs.testBit t=true
 ws:∀ t,p.ws.testBit t=true→q.ws.testBit t=true
 rl:∀ t,p.rl.testBit t=true→q.rl.testBit t=true
 wl:∀ t,p.wl.testBit t=true→q.wl.testBit t=true
theorem Fp.le.trans {p q r:Fp} (h:p.le q) (k:q.le r):p.le r:=⟨λt e=>k.rs t (h.rs t e),λt e=>k.ws t (h.ws t e),λt e=>k.rl t (h.rl t e),λt e=>k.wl t (h.wl t e)⟩
theorem Z0b:∀ {τ:List Et} {p:Fp},p.le (fpT τ p)
 | [],_=>⟨λ_ h=>h,λ_ h=>h,λ_ h=>h,λ_ h=>h⟩
 | .rS t _ :: τ,p=>Fp.le.trans (q:=⟨bit p.rs t,p.ws,p.rl,p.wl⟩) ⟨λ_ h=>ZRe h,λ_ h=>h,λ_ h=>h,λ_ h=>h⟩ (Z0b (τ:=τ))
 | .rL u _ :: τ,p=>Fp.le.trans (q:=⟨p.rs,p.ws,bit p.rl u,p.wl⟩) ⟨λ_ h=>h,λ_ h=>h,λ_ h=>ZRe h,λ_ h=>h⟩ (Z0b (τ:=τ))
 | .wS e :: τ,p=>Fp.le.trans (q:=⟨p.rs,bit p.ws e.k,p.rl,p.wl⟩) ⟨λ_ h=>h,λ_ h=>ZRe h,λ_ h=>h,λ_ h=>h⟩ (Z0b (τ:=τ))
 | .dup e :: τ,p=>Fp.le.trans (q:=⟨bit p.rs e.k,p.ws,p.rl,p.wl⟩) ⟨λ_ h=>ZRe h,λ_ h=>h,λ_ h=>h,λ_ h=>h⟩ (Z0b (τ:=τ))
 | .wL e :: τ,p=>Fp.le.trans (q:=⟨p.rs,p.ws,p.rl,bit p.wl e.k⟩) ⟨λ_ h=>h,λ_ h=>h,λ_ h=>h,λ_ h=>ZRe h⟩ (Z0b (τ:=τ))
 | .nL e :: τ,p=>Fp.le.trans (q:=⟨p.rs,p.ws,bit p.rl e.k,bit p.wl e.k⟩) ⟨λ_ h=>h,λ_ h=>h,λ_ h=>ZRe h,λ_ h=>ZRe h⟩ (Z0b (τ:=τ))
 | .dL u :: τ,p=>Fp.le.trans (q:=⟨p.rs,p.ws,p.rl,bit p.wl u⟩) ⟨λ_ h=>h,λ_ h=>h,λ_ h=>h,λ_ h=>ZRe h⟩ (Z0b (τ:=τ))
theorem Zte:∀ {τ:List Et} {p:Fp} {t:Nat},rdS τ t→(fpT τ p).rs.testBit t=true
 | .rS t _ :: τ,_,_,.inl e=>by subst e;exact (Z0b (τ:=τ)).rs _ ZCe
 | .dup _ :: τ,_,_,.inl e=>by subst e;exact (Z0b (τ:=τ)).rs _ ZCe
 | .rS t _ :: τ,_,_,.inr h=>Zte (τ:=τ) h
 | .dup _ :: τ,_,_,.inr h=>Zte (τ:=τ) h
 | .rL _ _ :: τ,_,_,h=>Zte (τ:=τ) h
 | .wS _ :: τ,_,_,h=>Zte (τ:=τ) h
 | .wL _ :: τ,_,_,h=>Zte (τ:=τ) h
 | .nL _ :: τ,_,_,h=>Zte (τ:=τ) h
 | .dL _ :: τ,_,_,h=>Zte (τ:=τ) h
theorem Z3d:∀ {τ:List Et} {p:Fp} {t:Nat},rdL τ t→(fpT τ p).rl.testBit t=true
 | .rL t _ :: τ,_,_,.inl e=>by subst e;exact (Z0b (τ:=τ)).rl _ ZCe
 | .nL _ :: τ,_,_,.inl e=>by subst e;exact (Z0b (τ:=τ)).rl _ ZCe
 | .rL t _ :: τ,_,_,.inr h=>Z3d (τ:=τ) h
 | .nL _ :: τ,_,_,.inr h=>Z3d (τ:=τ) h
 | .rS _ _ :: τ,_,_,h=>Z3d (τ:=τ) h
 | .wS _ :: τ,_,_,h=>Z3d (τ:=τ) h
 | .dup _ :: τ,_,_,h=>Z3d (τ:=τ) h
 | .wL _ :: τ,_,_,h=>Z3d (τ:=τ) h
 | .dL _ :: τ,_,_,h=>Z3d (τ:=τ) h
theorem Zqd:∀ {τ:List Et} {p:Fp} {t:Nat},Zmb τ t≠none→(fpT τ p).ws.testBit t=true
 | [],_,_,h=>absurd rfl h
 | .wS e :: τ,_,t,h=>by
  by_cases hk:e.k=t
  ·subst hk;exact (Z0b (τ:=τ)).ws _ ZCe
  ·refine Zqd (τ:=τ) λh0=>h ?_
   simp only[Zmb,h0,iN hk]
 | .rS _ _ :: τ,_,_,h=>Zqd (τ:=τ) h
 | .rL _ _ :: τ,_,_,h=>Zqd (τ:=τ) h
 | .dup _ :: τ,_,_,h=>Zqd (τ:=τ) h
 | .wL _ :: τ,_,_,h=>Zqd (τ:=τ) h
 | .nL _ :: τ,_,_,h=>Zqd (τ:=τ) h
 | .dL _ :: τ,_,_,h=>Zqd (τ:=τ) h
theorem Z8c:∀ {τ:List Et} {p:Fp} {t:Nat},ZBa τ t≠none→(fpT τ p).wl.testBit t=true
 | [],_,_,h=>absurd rfl h
 | .wL e :: τ,_,t,h=>by
  by_cases hk:e.k=t
  ·subst hk;exact (Z0b (τ:=τ)).wl _ ZCe
  ·refine Z8c (τ:=τ) λh0=>h ?_
   simp only[ZBa,h0,iN hk]
 | .nL e :: τ,_,t,h=>by
  by_cases hk:e.k=t
  ·subst hk;exact (Z0b (τ:=τ)).wl _ ZCe
  ·refine Z8c (τ:=τ) λh0=>h ?_
   simp only[ZBa,h0,iN hk]
 | .dL u :: τ,_,t,h=>by
  by_cases hk:u=t
  ·subst hk;exact (Z0b (τ:=τ)).wl _ ZCe
  ·refine Z8c (τ:=τ) λh0=>h ?_
   simp only[ZBa,h0,iN hk]
 | .rS _ _ :: τ,_,_,h=>Z8c (τ:=τ) h
 | .rL _ _ :: τ,_,_,h=>Z8c (τ:=τ) h
 | .wS _ :: τ,_,_,h=>Z8c (τ:=τ) h
 | .dup _ :: τ,_,_,h=>Z8c (τ:=τ) h
theorem Zgg {a b t:Nat} (h:Nat.land a b=0) (ha:a.testBit t=true) (hb:b.testBit t=true):False:=by
 have:(a &&& b).testBit t=true:=by rw[Nat.testBit_and,ha,hb];rfl
 rw[show (a &&& b)=0 from h]at this;simp at this
theorem Z6m {a b:Nat} (h:Nat.lor a b=0):a=0∧b=0:=by
 have h:a ||| b=0:=h;exact Nat.or_eq_zero_iff.1 h
theorem ZDj {a b t:Nat} (h:a.testBit t=true∨b.testBit t=true):(Nat.lor a b).testBit t=true:=by
 show (a ||| b).testBit t=true;rw[Nat.testBit_or];rcases h with h | h <;> simp[h]
structure Apart (τ σ:List Et):Prop where
 s1:∀ t,Zmb τ t≠none→rdS σ t→False
 s2:∀ t,Zmb τ t≠none→Zmb σ t≠none→False
 s3:∀ t,rdS τ t→Zmb σ t≠none→False
 l1:∀ t,ZBa τ t≠none→rdL σ t→False
 l2:∀ t,ZBa τ t≠none→ZBa σ t≠none→False
 l3:∀ t,rdL τ t→ZBa σ t≠none→False
theorem Z9q {τ σ:List Et} {p q:Fp} (h:(fpT τ p).free (fpT σ q)=true):Apart τ σ:=by
 have h:=eQ h;obtain⟨h1,h2⟩:=Z6m h;obtain⟨h3,h4⟩:=Z6m h1;obtain⟨h5,h6⟩:=Z6m h2;exact⟨λt a b=>Zgg h3 (Zqd a) (ZDj (.inl (Zte b))),λt a b=>Zgg h3 (Zqd a) (ZDj (.inr (Zqd b))),λt a b=>Zgg h4 (Zte a) (Zqd b),
  λt a b=>Zgg h5 (Z8c a) (ZDj (.inl (Z3d b))),λt a b=>Zgg h5 (Z8c a) (ZDj (.inr (Z8c b))),λt a b=>Zgg h6 (Z3d a) (Z8c b)⟩
def Z9e:List (List Et)→Fr→Fr
 | [],f=>f
 | τ :: r,f=>Z9e r (Zoc τ f)
def Zee:List (List Et)→Lo→Lo
 | [],l=>l
 | τ :: r,l=>Zee r (Zhc τ l)
def okTs:List (List Et)→Fr→Lo→Prop
 | [],_,_=>True
 | τ :: r,f,l=>okT τ f l∧okTs r (Zoc τ f) (Zhc τ l)
def ZDa {β:Type} (eff:List Et→Nat→Option β) (sel:Nat→Bool):List (List Et)→Nat→β→Nat→β
 | [],_,acc,_=>acc
 | τ :: r,i,acc,t=>ZDa eff sel r (i+1) (if sel i then (eff τ t).getD acc else acc) t
section
variable {β:Type} {eff:List Et→Nat→Option β}
theorem Zpe {sel sel':Nat→Bool} {t:Nat}:∀ {Ts:List (List Et)} {i:Nat} {acc:β},(∀ j τ,Ts[j]? = some τ→eff τ t≠none→sel (i+j)=sel' (i+j))→ZDa eff sel Ts i acc t=ZDa eff sel' Ts i acc t
 | [],_,_,_=>rfl
 | τ :: r,i,acc,h=>by
  have h1:(if sel i then (eff τ t).getD acc else acc)=(if sel' i then (eff τ t).getD acc else acc):=by
   cases he:eff τ t with
   | none=>simp
   | some z =>
    have:=h 0 τ rfl (by rw[he];exact λe=>by cases e);rw[Nat.add_zero]at this;rw[this]
  simp only[ZDa];rw[h1];exact Zpe λj σ hj hs=>by have:=h (j+1) σ hj hs;rwa [← Nat.add_assoc,Nat.add_right_comm]at this
theorem ZVe {sel:Nat→Bool} {t:Nat}:∀ {Ts:List (List Et)} {i:Nat} {acc:β},(∀ j τ,Ts[j]? = some τ→sel (i+j)=true→eff τ t=none)→ZDa eff sel Ts i acc t=acc
 | [],_,_,_=>rfl
 | τ :: r,i,acc,h=>by
  simp only[ZDa]
  rw[ZVe λj σ hj hs=>h (j+1) σ hj (by rwa [← Nat.add_assoc,Nat.add_right_comm])]
  by_cases hs:sel i=true
  ·rw[iP hs,h 0 τ rfl hs];rfl
  ·rw[iN hs]
theorem Z2m {sel:Nat→Bool} {t:Nat}:∀ {Ts:List (List Et)} {i k:Nat} {acc:β} {τ:List Et} {z:β},Ts[k]? = some τ→sel (i+k)=true→eff τ t=some z→(∀ j σ,k<j→Ts[j]? = some σ→sel (i+j)=true→eff σ t=none)→ZDa eff sel Ts i acc t=z
 | [],_,_,_,_,_,h,_,_,_=>by cases h
 | σ :: r,i,0,acc,τ,z,h,hs,he,hj=>by
  cases h
  simp only[ZDa]
  rw[iP (show sel i=true from hs),he]
  exact ZVe λj σ hσ hsj=>hj (j+1) σ (by omega) hσ (by rwa [← Nat.add_assoc,Nat.add_right_comm])
 | σ :: r,i,k+1,acc,τ,z,h,hs,he,hj=>by
  simp only[ZDa]
  exact Z2m (k:=k) (τ:=τ) h (by rwa [Nat.add_right_comm]) he λj σ' hkj hσ hsj=>hj (j+1) σ' (by omega) hσ (by rwa [← Nat.add_assoc,Nat.add_right_comm])
end
theorem Zum:∀ {Ts:List (List Et)} {f:Fr} {l:Lo} {b i:Nat} {τ:List Et},okTs Ts f l→(l.map En.k).Nodup→Ts[i]? = some τ→∃ fi li,okT τ fi li∧(li.map En.k).Nodup∧(∀ t,lkE fi t=ZDa Zmb (λj=>decide (j<b+i)) Ts b (lkE f t) t)∧∀ t,lkE li t=ZDa ZBa (λj=>decide (j<b+i)) Ts b (lkE l t) t
 | [],_,_,_,_,_,_,_,h=>by cases h
 | σ :: r,f,l,b,0,τ,h,hn,ht=>by
  cases ht
  refine⟨f,l,h.1,hn,λt=>(ZVe λj _ _ hs=>?_).symm,λt=>(ZVe λj _ _ hs=>?_).symm⟩ <;> (have:=of_decide_eq_true hs;omega)
 | σ :: r,f,l,b,i+1,τ,h,hn,ht=>by
  obtain⟨n1,hl⟩:=Z2c hn h.1
  obtain⟨fi,li,k1,k2,k3,k4⟩:=Zum (b:=b+1) (i:=i) h.2 n1 ht
  have e:(λj=>decide (j<b+1+i))=λj=>decide (j<b+(i+1)):=by funext j;congr 1;rw[Nat.add_assoc,Nat.add_comm 1 i]
  have hb:decide (b<b+(i+1))=true:=by simp
  refine⟨fi,li,k1,k2,λt=>?_,λt=>?_⟩
  ·rw[k3 t,e,Zjd h.1];simp only[ZDa];rw[iP hb]
  ·rw[k4 t,e,hl t];simp only[ZDa];rw[iP hb]
theorem Zul:∀ {Ts:List (List Et)} {f:Fr} {l:Lo} {b:Nat},okTs Ts f l→(l.map En.k).Nodup→((Zee Ts l).map En.k).Nodup∧(∀ t,lkE (Z9e Ts f) t=ZDa Zmb (λ_=>true) Ts b (lkE f t) t)∧∀ t,lkE (Zee Ts l) t=ZDa ZBa (λ_=>true) Ts b (lkE l t) t
 | [],_,_,_,_,hn=>⟨hn,λ_=>rfl,λ_=>rfl⟩
 | τ :: r,f,l,b,h,hn=>by
  obtain⟨n1,hl⟩:=Z2c hn h.1
  obtain⟨k1,k2,k3⟩:=Zul (b:=b+1) h.2 n1
  refine⟨k1,λt=>?_,λt=>?_⟩
  ·rw[show Z9e (τ :: r) f=Z9e r (Zoc τ f) from rfl,k2 t,Zjd h.1];rfl
  ·rw[show Zee (τ :: r) l=Zee r (Zhc τ l) from rfl,k3 t,hl t];rfl
theorem Zqn {α:Type} {C:Cf} {ops:List Oper} {r:α}:∀ {os:List Oper} {f:Fr} {l:Lo} {n:Nat} {K:Fr→Lo→Nat→List Fp→Option α},ZIf C ops os f l n K=some r →
  ∃ Ts:List (List Et),Ts.length=os.length∧okTs Ts f l∧(∀ i o τ,os[i]? = some o→Ts[i]? = some τ→Tr (n+i) (gop C ops (n+i) o) τ ())∧K (Z9e Ts f) (Zee Ts l) (n+os.length) (Ts.map λτ=>fpT τ Fp.no)=some r
 | [],f,l,n,K,h=>⟨[],rfl,trivial,λ_ _ _ h=>by simp at h,h⟩
 | o :: os,f,l,n,K,h=>by
  simp only[ZIf]at h
  obtain⟨⟨⟩,τ,h1,h2,h3⟩:=ZXx h
  obtain⟨Ts,k1,k2,k3,k4⟩:=Zqn h3
  refine⟨τ :: Ts,by simp[k1],⟨h2,k2⟩,λi o' τ' ho ht=>?_,?_⟩
  ·cases i with
   | zero=>cases ho;cases ht;exact h1
   | succ i=>have:=k3 i o' τ' ho ht;rwa [Nat.add_right_comm]at this
  ·rw[List.length_cons,← Nat.add_assoc,Nat.add_right_comm];exact k4
theorem Zaz {ρ:Type} {n:Nat} {A:Prop}:∀ {e:Ev ρ} {f:Fr} {l:Lo} {K:ρ→Fr→Lo→Prop},Zj n e f l K→(∀ x f' l',K x f' l'→A)→A:=by
 intro e
 induction e with
 | fail=>intro f l K h k;exact h.elim
 | done x=>intro f l K h k;exact k _ _ _ h
 | rdS t q ih=>intro f l K h k;obtain⟨x,hx,h⟩:=h;exact ih _ h k
 | rdL u q ih=>intro f l K h k;obtain⟨x,hx,h⟩:=h;exact ih _ _ h k
 | wrS t x e ih=>intro f l K h k;exact ih h k
 | wrL u L e ih=>intro f l K h k;exact ih h k
 | new u L e ih=>intro f l K h k;exact ih h.2 k
 | del u e ih=>intro f l K h k;exact ih h k
 | bind x q ih=>intro f l K h k;obtain⟨x,hx,h⟩:=h;exact ih _ h k
 | test t e1 e2 i1 i2 =>
  intro f l K h k;obtain⟨s,b,h1,h2,h3⟩:=h
  cases b with
  | true=>exact i1 (h2 rfl) k
  | false=>exact i2 (h3 rfl) k
 | alt b e1 e2 i1 i2 =>
  intro f l K h k
  cases b with
  | true=>exact i1 (h.1 rfl) k
  | false=>exact i2 (h.2 rfl) k
theorem Z5l {C:Cf} {ops:List Oper} {m:Nat}:∀ {os:List Oper} {Ts:List (List Et)} {f:Fr} {l:Lo} {n:Nat},m≤n→Ts.length=os.length→okTs Ts f l→(l.map En.k).Nodup→(∀ i o τ,os[i]? = some o→Ts[i]? = some τ→Tr (n+i) (gop C ops (n+i) o) τ ())→Old m f l (Z9e Ts f) (Zee Ts l)
 | _,[],_,_,_,_,_,_,_,_=>Old.refl
 | [],_ :: _,_,_,_,_,h,_,_,_=>by cases h
 | o :: os,τ :: Ts,f,l,n,hm,hl,h,hn,ht=>by
  have h1:=ZQd hm Old.refl hn (Zmm (ht 0 o τ rfl rfl) h.1)
  have h2:Old m f l (Zoc τ f) (Zhc τ l):=Zaz h1 λx f' l' ⟨⟨_,e1,e2⟩,h⟩=>by subst e1;subst e2;exact h
  exact h2.trans (Z5l (n:=n+1) (by omega) (by simpa using hl) h.2 (Z2c hn h.1).1 λi o' τ' ho hτ=>by
   have:=ht (i+1) o' τ' ho hτ
   rwa [← Nat.add_assoc,Nat.add_right_comm]at this) (Nat.le_refl m)
theorem ZQq {m:Nat} {q:Fp}:∀ {bef:List Fp} {i0:Nat},chk1 m q bef i0=true→∀ i p,bef[i]? = some p→m.testBit (i0+i)=true∨p.free q=true
 | [],_,_,_,_,h=>by cases h
 | p0 :: r,i0,h,i,p,hp=>by
  simp only[chk1]at h
  cases i with
  | zero =>
   cases hp
   rw[Nat.add_zero]
   split at h
   ·rename_i e;exact .inl e
   ·split at h
    ·rename_i e;exact .inr e
    ·cases h
  | succ i =>
   have h':chk1 m q r (i0+1)=true:=by
    split at h
    ·exact h
    ·split at h
     ·exact h
     ·cases h
   have:=ZQq h' i p hp
   rwa [Nat.add_right_comm]at this
theorem ZQl:∀ {qs:List Fp} {bef:List Fp} {ms:List Nat},Zme bef ms qs=true→∀ j q,qs[j]? = some q→∃ m,ms[j]? = some m∧∀ i p,(bef++qs)[i]? = some p→i<bef.length+j→m.testBit i=true∨p.free q=true
 | [],_,_,_,_,_,h=>by cases h
 | q0 :: qs,bef,ms,h,j,q,hq=>by
  cases ms with
  | nil=>cases h
  | cons m0 ms =>
   simp only[Zme]at h
   split at h
   ·rename_i h1
    cases j with
    | zero =>
     cases hq
     refine⟨m0,rfl,λi p hp hi=>?_⟩
     rw[List.getElem?_append_left (by omega)]at hp
     have:=ZQq h1 i p hp
     rwa [Nat.zero_add]at this
    | succ j =>
     obtain⟨m,h2,h3⟩:=ZQl h j q hq
     refine⟨m,h2,λi p hp hi=>h3 i p (by rw[aAq];exact hp) (by simp;omega)⟩
   ·cases h
theorem ZKi {done:List Nat} {t:Nat}:∀ {es:List Edge} {m:Nat},(ZFc done es m).testBit t=true→m.testBit t=true ∨ ∃ e ∈ es,Region.binds .any e=true∧(t=e.on∨(done.getD e.on 0).testBit t=true)
 | [],_,h=>.inl h
 | e :: r,m,h=>by
  simp only[ZFc]at h
  split at h
  ·rename_i hb
   rcases ZKi h with h | ⟨e',he,h1,h2⟩
   ·have h:((m ||| 2^e.on) ||| done.getD e.on 0).testBit t=true:=h
    rw[Nat.testBit_or,Nat.testBit_or,Nat.testBit_two_pow,Bool.or_eq_true,Bool.or_eq_true]at h
    rcases h with (h | h) | h
    ·exact .inl h
    ·exact .inr ⟨e,by simp,hb,.inl (by simpa using (of_decide_eq_true h).symm)⟩
    ·exact .inr ⟨e,by simp,hb,.inr h⟩
   ·exact .inr ⟨e',by simp[he],h1,h2⟩
  ·rcases ZKi h with h | ⟨e',he,h1,h2⟩
   ·exact .inl h
   ·exact .inr ⟨e',by simp[he],h1,h2⟩
theorem Zeq:∀ {os:List Oper} {done:List Nat} {j:Nat} {m:Nat},done[j]? = some m→(Z5a os done)[j]? = some m
 | [],_,_,_,h=>h
 | o :: os,done,j,m,h=>Zeq (os:=os) (by rw[List.getElem?_append_left (List.getElem?_eq_some_iff.1 h).1];exact h)
theorem ZDg {S:Nat→Prop}:∀ {os:List Oper} {done:List Nat},(∀ j o,os[j]? = some o→S (done.length+j)→∀ e ∈ o.after,Region.binds .any e=true→S e.on)→(∀ j m,done[j]? = some m→S j→∀ i,m.testBit i=true→S i) →
  ∀ j o m,os[j]? = some o→(Z5a os done)[done.length+j]? = some m→(∀ e ∈ o.after,Region.binds .any e=true→S e.on)→∀ i,m.testBit i=true→S i
 | [],_,_,_,_,_,_,h,_,_,_,_=>by cases h
 | o0 :: os,done,hc,hd,j,o,m,ho,hm,he,i,hi=>by
  have key:(∀ e ∈ o0.after,Region.binds .any e=true→S e.on)→∀ i,(ZFc done o0.after.toList 0).testBit i=true→S i:=λhe i hi=>by
   rcases ZKi hi with h | ⟨e,h1,h2,h3⟩
   ·simp at h
   ·have hS:=he e (by simpa using h1) h2
    rcases h3 with h3 | h3
    ·subst h3;exact hS
    ·cases hg:done[e.on]? with
     | none=>rw[List.getD_eq_getElem?_getD,hg]at h3;simp at h3
     | some x=>rw[List.getD_eq_getElem?_getD,hg]at h3;exact hd _ x hg hS i h3
  simp only[Z5a]at hm
  cases j with
  | zero =>
   cases ho
   rw[Nat.add_zero]at hm
   have:(Z5a os (done++[ZFc done o0.after.toList 0]))[done.length]? = some (ZFc done o0.after.toList 0):=Zeq (by simp)
   rw[this]at hm;cases hm
   exact key he i hi
  | succ j =>
   refine ZDg (os:=os) (done:=done++[ZFc done o0.after.toList 0]) (λj' o' ho' hS=>hc (j'+1) o' ho' (by rw[lA,List.length_singleton]at hS;rwa [← Nat.add_assoc,Nat.add_right_comm])) (λj' m' hm' hS=>?_) j o m ho (by rw[lA,List.length_singleton,Nat.add_right_comm];exact hm) he i hi
   rcases Nat.lt_or_ge j' done.length with h | h
   ·rw[List.getElem?_append_left h]at hm';exact hd j' m' hm' hS
   ·rw[List.getElem?_append_right h]at hm'
    cases hj:j'-done.length with
    | zero =>
     rw[hj]at hm';cases hm'
     refine key (hc 0 o0 rfl ?_)
     rwa [Nat.add_zero,show done.length=j' by omega]
    | succ k=>rw[hj]at hm';cases hm'
theorem Zur:∀ {os:List Oper} {i0:Nat},Zoe i0 os=true→∀ i o,os[i]? = some o→∀ e ∈ o.after,Region.binds .any e=true→e.on<i0+i
 | [],_,_,_,_,h,_,_,_=>by cases h
 | o0 :: os,i0,h,i,o,ho,e,he,hb=>by
  simp only[Zoe]at h
  split at h
  ·rename_i h1
   cases i with
   | zero =>
    cases ho
    have:∀ {es:List Edge},Z2h i0 es=true→∀ e ∈ es,Region.binds .any e=true→e.on<i0:=by
     intro es
     induction es with
     | nil=>intro _ e h;cases h
     | cons x r ih =>
      intro h e he hb;simp only[Z2h]at h;split at h
      ·split at h
       ·rename_i hlt;rcases List.mem_cons.1 he with rfl | he
        ·exact lB hlt
        ·exact ih h e he hb
       ·cases h
      ·rename_i hx;rcases List.mem_cons.1 he with rfl | he
       ·rw[hb]at hx;cases hx
       ·exact ih h e he hb
    exact this h1 e (by simpa using he) hb
   | succ i=>have:=Zur h i o ho e he hb;omega
  ·cases h
end Go.Eng
namespace Go.Eng
open Go.RowKit
section
variable {N:Nat} {G:V→Value→Prop} {w0:Base} {v0:Zb}
theorem F2_perm {R:En LV→List Loc→Prop} {l l2:Lo} (hp:l.Perm l2):∀ {E:List (List Loc)},F2 R l E→∃ E2,F2 R l2 E2∧E.flatten.Perm E2.flatten:=by
 induction hp with
 | nil=>intro E h;exact⟨E,h,List.Perm.refl _⟩
 | cons x _ ih =>
  intro E h
  cases E with
  | nil=>exact h.elim
  | cons es E =>
   obtain⟨E2,h1,h2⟩:=ih h.2;exact⟨es :: E2,⟨h.1,h1⟩,by simp only[List.flatten_cons];exact List.Perm.append_left _ h2⟩
 | swap x y l =>
  intro E h
  cases E with
  | nil=>exact h.elim
  | cons es E =>
   cases E with
   | nil=>exact h.2.elim
   | cons es2 E =>
    refine⟨es2 :: es :: E,⟨h.2.1,h.1,h.2.2⟩,?_⟩;simp only[List.flatten_cons];rw[← aAq,← aAq];exact List.Perm.append_right _ List.perm_append_comm
 | trans _ _ i1 i2 =>
  intro E h;obtain⟨E2,h1,h2⟩:=i1 h;obtain⟨E3,h3,h4⟩:=i2 h1;exact⟨E3,h3,h2.trans h4⟩
theorem ZTb {l:Lo} (hn:(l.map En.k).Nodup) {e:En LV} (h:e ∈ l):lkE l e.k=some e:=by
 induction l with
 | nil=>cases h
 | cons p r ih =>
  simp only[List.map_cons,List.nodup_cons]at hn;rw[ZL];rcases List.mem_cons.1 h with rfl | h
  ·rw[iP rfl]
  ·rw[iN λe2=>hn.1 (List.mem_map.2 ⟨e,h,Eq.symm e2⟩)];exact ih hn.2 h
theorem Zfr {l:Lo} (hn:(l.map En.k).Nodup):l.Nodup:=by
 induction l with
 | nil=>exact List.nodup_nil
 | cons p r ih =>
  simp only[List.map_cons,List.nodup_cons]at hn;exact List.nodup_cons.2 ⟨λh=>hn.1 (List.mem_map.2 ⟨p,h,rfl⟩),ih hn.2⟩
theorem Zly {l l2:Lo} (hn:(l.map En.k).Nodup) (hn2:(l2.map En.k).Nodup) (h:∀ u,lkE l u=lkE l2 u):l.Perm l2:=by
 refine (List.perm_ext_iff_of_nodup (Zfr hn) (Zfr hn2)).2 λe=>⟨λhe=>?_,λhe=>?_⟩
 ·have:=ZTb hn he;rw[h]at this;exact (Zk this).1
 ·have:=ZTb hn2 he;rw[← h]at this;exact (Zk this).1
theorem RelX.look {U X:Nat→Prop} {f f2:Fr} {l l2:Lo} {a:Act} {w:World} {γ:Nat→Gh} {v:Zb} {ℓ:List Loc} (h:RelX N G w0 v0 U X f l a w γ v ℓ) (hn2:(l2.map En.k).Nodup) (hf:∀ t,lkE f2 t=lkE f t) (hl:∀ u,lkE l2 u=lkE l u):RelX N G w0 v0 U X f2 l2 a w γ v ℓ:=by
 obtain⟨E,hE,hp⟩:=h.lr;have hle:Le U v γ l v γ l2:=by
  have:=Le.refl (U:=U) hE (Zb.le_refl v);exact⟨Zb.le_refl _,λu e' hk he=>this.l u e' hk (by rw[← hl];exact he)⟩
 have hpl:=Zly h.nd hn2 λu=>(hl u).symm;obtain⟨E2,h1,h2⟩:=F2_perm hpl hE;refine⟨h.st,λt e he=>?_,⟨E2,h1.imp λe he es hr=>?_,hp.trans h2⟩,hn2,λt e he=>h.uf t e ((hf t) ▸ he),λe he=>h.ul e (hpl.mem_iff.2 he),λx y hg=>⟨ZVa hle (h.gh x y hg).2 (h.gh x y hg).1,(h.gh x y hg).2⟩⟩
 ·have he':=(hf t) ▸ he;exact ZVa hle (h.uf t e he').1 (h.fr t e he')
 ·exact Z4f hle (h.ul e (hpl.mem_iff.2 he)).2.2 rfl hr
end
end Go.Eng
namespace Go.Eng
open Go.RowKit
section
variable {N:Nat} {G:V→Value→Prop} {w0:Base} {v0:Zb}
theorem Rel.draw {U:Nat→Prop} {f:Fr} {l:Lo} {a:Act} {w:World} (h:Rel N G w0 v0 U f l a w):Rel N G w0 v0 U f l a w.drew:=by
 obtain⟨γ,v,ℓ,h⟩:=h;exact⟨γ,v,ℓ,h.st.drew,h.fr,h.lr,h.nd,h.uf,h.ul,h.gh⟩
def sel (listed:Array Bool):Nat→Bool:=λj=>listed.getD j false
def UE (n:Nat) (listed:Array Bool):Nat→Prop:=λk=>k<n ∨ ∃ j,listed.getD j false=true∧k=n+j
structure Inv (N:Nat) (G:V→Value→Prop) (w0:Base) (v0:Zb) (ops:Array Oper) (Ts:List (List Et)) (f:Fr) (l:Lo) (n:Nat) (listed:Array Bool) (a:Act) (w:World):Prop where
 size:listed.size=ops.size
 closed:∀ (j:Nat) (o:Oper),ops[j]? = some o→listed.getD j false=true→∀ e ∈ o.after,Region.binds .any e=true→listed.getD e.on false=true
 rel:∃ f1 l1,Rel N G w0 v0 (UE n listed) f1 l1 a w∧(∀ t,lkE f1 t=ZDa Zmb (sel listed) Ts 0 (lkE f t) t)∧∀ t,lkE l1 t=ZDa ZBa (sel listed) Ts 0 (lkE l t) t
theorem ZCj {ops:Array Oper} (hb:Zoe 0 ops.toList=true) {listed:Array Bool} (hs:listed.size=ops.size):∀ (n j:Nat),j<n→j<ops.size→listed.getD j true=false→Region.ready .any ops listed≠[]
 | 0,j,h,_,_=>by omega
 | n+1,j,h,hj,hl=>by
  intro h0
  by_cases hp:∃ e ∈ (ops[j]).after,Region.binds .any e=true∧listed.getD e.on false=false
  ·obtain⟨e,he,hbb,hn⟩:=hp
   have hlt:=Zur hb j ops[j] (by simp[hj]) e he hbb
   refine ZCj hb hs n e.on (by omega) (by omega) ?_ h0
   rw[Z8b (by omega)];exact hn
  ·have:j ∈ Region.ready .any ops listed:=mem_ready.2 ⟨hl,ops[j],by simp[hj],λe he hb=>by
    cases hx:listed.getD e.on false with
    | true=>rfl
    | false=>exact absurd ⟨e,he,hb,hx⟩ hp⟩
   rw[h0]at this;cases this
theorem Ziw {C:Cf} (hC:CfOK C) {ops:Array Oper} {Ts:List (List Et)} {f:Fr} {l:Lo} {n:Nat} {Q:Exit→Act→World→Prop} (hb:Zoe 0 ops.toList=true) (hds:∀ o ∈ ops.toList,∀ k,o.dst=some k→k<N) (hl:Ts.length=ops.toList.length)
  (hn:(l.map En.k).Nodup) (hok:okTs Ts f l) (htr:∀ i o τ,ops.toList[i]? = some o→Ts[i]? = some τ→Tr (n+i) (gop C ops.toList (n+i) o) τ ()) (hch:Zme [] (Z5a ops.toList []) (Ts.map λτ=>fpT τ Fp.no)=true)
  (hQ:∀ a' w',Rel N G w0 v0 (· < n+ops.toList.length) (Z9e Ts f) (Zee Ts l) a' w'→Q .normal a' w'):∀ (fuel:Nat) (listed:Array Bool) (a:Act) (w:World),left listed=fuel→Inv N G w0 v0 ops Ts f l n listed a w→wpAny C.P .any ops Q fuel listed a w:=by
 have ord:∀ (i j:Nat) (τ σ:List Et),i<j→Ts[i]? = some τ→Ts[j]? = some σ→∃ m,(Z5a ops.toList [])[j]? = some m∧(m.testBit i=true∨Apart τ σ):=by
  intro i j τ σ hij hτ hσ;obtain⟨m,h1,h2⟩:=ZQl hch j (fpT σ Fp.no) (by simp[hσ]);refine⟨m,h1,(h2 i (fpT τ Fp.no) (by simp[hτ]) (by simpa using hij)).imp_right Z9q⟩
 have opAt:∀ (j:Nat) (σ:List Et),Ts[j]? = some σ→∃ o,ops[j]? = some o:=λj σ h=>by
  have:=(List.getElem?_eq_some_iff.1 h).1;rw[hl]at this;exact⟨ops[j]'(by simpa using this),by simp⟩
 intro fuel
 induction fuel with
 | zero =>
  intro listed a w hfu hI;have hall:∀ j,listed.getD j true=true:=λj=>Zrm hfu;refine⟨?_,?_⟩
  ·cases hx:Region.ready .any ops listed with
   | nil=>rfl
   | cons p r =>
    obtain⟨h1,_⟩:=mem_ready.1 (show p ∈ Region.ready .any ops listed by rw[hx];simp);rw[hall p]at h1;cases h1
  ·obtain⟨f1,l1,⟨γ,v,ℓ,h1⟩,h2,h3⟩:=hI.rel;obtain⟨k1,k2,k3⟩:=Zul (b:=0) hok hn;have hsel:∀ (j:Nat) (σ:List Et),Ts[j]? = some σ→sel listed (0+j)=true:=λj σ h=>by
    obtain⟨o,ho⟩:=opAt j σ h;rw[Nat.zero_add];show listed.getD j false=true;rw[← Z8b (by rw[hI.size];exact Zgc ho)];exact hall j
   refine hQ a w ⟨γ,v,ℓ,(h1.look k1 (λt=>?_) λt=>?_).mono (λk hk=>?_) λk hk=>?_⟩
   ·rw[k2 t,h2 t];exact (Zpe λj σ hj _=>(hsel j σ hj)).symm
   ·rw[k3 t,h3 t];exact (Zpe λj σ hj _=>(hsel j σ hj)).symm
   all_goals
    rcases hk with hk | ⟨j,hj,rfl⟩
    ·omega
    ·have:j<listed.size:=by
      rcases Nat.lt_or_ge j listed.size with h | h
      ·exact h
      ·simp[Array.getElem?_eq_none h]at hj
     rw[hI.size]at this;simp;omega
 | succ fuel ih =>
  intro listed a w hfu hI;refine⟨λh0=>?_,λi hi=>?_⟩
  ·obtain⟨j,hj,hj2⟩:=Z6l (listed:=listed) (by omega);exact absurd h0 (ZCj hb hI.size (j+1) j (by omega) (by rw[← hI.size];exact hj) hj2)
  ·obtain⟨hun,o,ho,hall⟩:=mem_ready.1 hi;have hil:i<listed.size:=by rw[hI.size];exact Zgc ho
   have hunf:listed.getD i false=false:=by rw[← Z8b hil];exact hun
   have ho':ops.toList[i]? = some o:=by rw[Array.getElem?_toList];exact ho
   have hlt:i<Ts.length:=by rw[hl];exact (List.getElem?_eq_some_iff.1 ho').1
   have hτ:Ts[i]? = some Ts[i]:=List.getElem?_eq_getElem hlt;generalize hg:Ts[i]=τ at hτ;obtain⟨fi,li,b1,b2,b3,b4⟩:=Zum (b:=0) hok hn hτ;obtain⟨f1,l1,⟨γ,v,ℓ,h1⟩,h2,h3⟩:=hI.rel;have befo:∀ (j:Nat) (σ:List Et),j<i→Ts[j]? = some σ→listed.getD j false=true∨Apart σ τ:=by
    intro j σ hj hσ;obtain⟨m,q1,q2⟩:=ord j i σ τ hj hσ hτ;refine q2.imp_left λhbit=>?_;refine ZDg (S:=λk=>listed.getD k false=true) (done:=[]) (λj' o' ho' hS=>hI.closed j' o' (by rw[← Array.getElem?_toList];exact ho') (by simpa using hS)) (λj' m' hm'=>by simp at hm') i o m ho' (by simpa using q1) hall j hbit
   have afte:∀ (j:Nat) (σ:List Et),i<j→Ts[j]? = some σ→listed.getD j false=false∨Apart τ σ:=by
    intro j σ hj hσ;obtain⟨m,q1,q2⟩:=ord i j τ σ hj hτ hσ;refine q2.imp_left λhbit=>?_
    cases hx:listed.getD j false with
    | false=>rfl
    | true =>
     obtain⟨oj,hoj⟩:=opAt j σ hσ;have:=ZDg (S:=λk=>listed.getD k false=true) (done:=[]) (λj' o' ho' hS=>hI.closed j' o' (by rw[← Array.getElem?_toList];exact ho') (by simpa using hS)) (λj' m' hm'=>by simp at hm') j oj m (by rw[Array.getElem?_toList];exact hoj) (by simpa using q1) (hI.closed j oj hoj hx) i hbit;rw[hunf]at this;cases this
   have same:∀ {β:Type} (eff:List Et→Nat→Option β) (P:Nat→Prop) (acc:β) (t:Nat),P t→(∀ σ,Apart σ τ→P t→eff σ t≠none→False)→(∀ σ,Apart τ σ→P t→eff σ t≠none→False)→ZDa eff (λj=>decide (j<0+i)) Ts 0 acc t=ZDa eff (sel listed) Ts 0 acc t:=by
    intro β eff P acc t hP hA hB;refine Zpe λj σ hj hne=>?_;simp only[Nat.zero_add];rcases Nat.lt_trichotomy j i with h | h | h
    ·rcases befo j σ h hj with q | q
     ·rw[dT h];exact q.symm
     ·exact (hA σ q hP hne).elim
    ·subst h;rw[dFq (Nat.lt_irrefl _)];exact hunf.symm
    ·rcases afte j σ h hj with q | q
     ·rw[dFq (by omega)];exact q.symm
     ·exact (hB σ q hP hne).elim
   have okτ:okT τ f1 l1:=by
    refine Zge b2 h1.nd b1 (λt ht=>?_) λt ht=>?_
    ·rw[b3 t,h2 t];exact same Zmb (rdS τ) _ t ht (λσ q hp hne=>q.s1 t hne hp) λσ q hp hne=>q.s3 t hp hne
    ·rw[b4 t,h3 t];exact same ZBa (rdL τ) _ t ht (λσ q hp hne=>q.l1 t hne hp) λσ q hp hne=>q.l3 t hp hne
   have hruns:=Zmm (htr i o τ ho' hτ) okτ;have hnU:¬ UE n listed (n+i):=by
    rintro (h | ⟨j,hj,e⟩)
    ·omega
    ·have:i=j:=by omega
     subst this;rw[hunf]at hj;cases hj
   have selS:∀ j,sel (listed.setIfInBounds i true) j=if i=j then true else sel listed j:=λj=>by
    by_cases h:i=j
    ·subst h;rw[iP rfl];exact ZUb hil
    ·rw[iN h];exact Z0a h
   have hUE:∀ k,UE n listed k→UE n (listed.setIfInBounds i true) k:=by
    rintro k (h | ⟨j,hj,e⟩)
    ·exact .inl h
    ·refine .inr ⟨j,?_,e⟩;have:=selS j;unfold sel at this;rw[this,hj];split <;> rfl
   have hXi:UE n (listed.setIfInBounds i true) (n+i):=.inr ⟨i,ZUb hil,rfl⟩;have hgg:=Zqh (X:=UE n (listed.setIfInBounds i true)) hC (h1.mono (λ_ h=>h) hUE) hUE hXi hnU hds (hds o (mG ho')) hruns;have upd:∀ {β:Type} (eff:List Et→Nat→Option β) (acc:β) (t:Nat),(∀ σ,Apart τ σ→eff τ t≠none→eff σ t≠none→False)→ZDa eff (sel (listed.setIfInBounds i true)) Ts 0 acc t=(eff τ t).getD (ZDa eff (sel listed) Ts 0 acc t):=by
    intro β eff acc t hA
    cases he:eff τ t with
    | none =>
     refine Zpe λj σ hj hne=>?_;rw[Nat.zero_add,selS j,iN];intro e;subst e;rw[hτ]at hj;cases hj;exact hne he
    | some z =>
     refine Z2m (k:=i) hτ (by rw[Nat.zero_add,selS i,iP rfl]) he λj σ hij hσ hs=>?_;rw[Nat.zero_add,selS j,iN (by omega)]at hs;rcases afte j σ hij hσ with q | q
     ·rw[show sel listed j=false from q]at hs;cases hs
     ·cases hx:eff σ t with
      | none=>rfl
      | some y=>exact (hA σ q (by rw[he];exact λe=>by cases e) (by rw[hx];exact λe=>by cases e)).elim
   have nxt:∀ f' l' a' w',((()=()∧f'=Zoc τ f1∧l'=Zhc τ l1)∧True)→Rel N G w0 v0 (UE n (listed.setIfInBounds i true)) f' l' a' w'→wpAny C.P .any ops Q fuel (listed.setIfInBounds i true) a' w':=by
    rintro f' l' a' w' ⟨⟨_,rfl,rfl⟩,_⟩ hr;refine ih _ _ _ (by have:=Zni hun;omega) ⟨by simp[hI.size],λj oj hj hlj e he hbb=>?_,_,_,hr,λt=>?_,λt=>?_⟩
    ·have hj2:=selS e.on;have hj3:=selS j;unfold sel at hj2 hj3;rw[hj2];split
     ·rfl
     ·rw[hj3]at hlj;split at hlj
      ·rename_i hij;subst hij;rw[ho]at hj;cases hj;exact hall e he hbb
      ·exact hI.closed j oj hj hlj e he hbb
    ·rw[Zjd okτ,h2 t];exact (upd Zmb _ t λσ q hp hne=>q.s2 t hp hne).symm
    ·rw[(Z2c h1.nd okτ).2 t,h3 t];exact (upd ZBa _ t λσ q hp hne=>q.l2 t hp hne).symm
   unfold wpOp;rw[ho];rcases hgg with ⟨hw,hg⟩ | ⟨hw,f',l',q1,q2⟩
   ·simp only[hw,if_true];exact .inl (ZVi rfl hg λx w' ⟨f',l',q1,q2⟩=>nxt f' l' _ w' ⟨⟨rfl,q1.2⟩,trivial⟩ q2)
   ·simp only[hw];exact nxt f' l' _ w ⟨⟨rfl,q1.2⟩,trivial⟩ q2
end
end Go.Eng
namespace Go.Eng
open Go.RowKit
section
variable {N:Nat} {G:V→Value→Prop} {w0:Base} {v0:Zb}
theorem ZSt:∀ {os:List Oper} {done:List Nat},(Z5a os done).length=done.length+os.length
 | [],done=>by simp[Z5a]
 | o :: os,done=>by
  simp only[Z5a]
  rw[ZSt]
  simp;omega
theorem ZLp {m:Nat}:∀ {k:Nat},allB m k=true→∀ i,i<k→m.testBit i=true
 | 0,_,_,h=>by omega
 | k+1,h,i,hi=>by
  simp only[allB]at h
  split at h
  ·rename_i hb
   rcases Nat.lt_or_ge i k with h1 | h1
   ·exact ZLp h i h1
   ·rw[show i=k by omega];exact hb
  ·cases h
theorem Z4t {ops:List Oper} {o:Oper} (h:ZFj ops=some o):ops.dropLast++[o]=ops∧o.guard=none∧∀ i,i<ops.dropLast.length→(ZFc (Z5a ops.dropLast []) o.after.toList 0).testBit i=true:=by
 unfold ZFj at h;split at h
 ·cases h
 ·rename_i q hq;split at h
  ·cases h
  ·rename_i hc;split at h
   ·rename_i hb
    cases h
    refine⟨?_,?_,ZLp hb⟩
    ·rcases List.eq_nil_or_concat ops with rfl | ⟨L,b,rfl⟩
     ·cases hq
     ·simp at hq;subst hq;simp
    ·unfold Zss at hc;split at hc
     ·rename_i hg;exact hg
     ·cases hc
   ·cases h
theorem Zml {l:Array Bool} {i j:Nat} {b:Bool} (h:¬ j=i):(l.setIfInBounds i true).getD j b=l.getD j b:=by
 simp[Array.getD_eq_getD_getElem?,Array.getElem?_setIfInBounds_ne (Ne.symm h)]
theorem Z8u {C:Cf} (hC:CfOK C) {ops:Array Oper} {ol:Oper} {Ts:List (List Et)} {f:Fr} {l:Lo} {n:Nat} {Q:Exit→Act→World→Prop} (he:ops.toList.dropLast++[ol]=ops.toList) (hg:ol.guard=none) (hanc:∀ i,i<ops.toList.dropLast.length→(ZFc (Z5a ops.toList.dropLast []) ol.after.toList 0).testBit i=true)
  (hb:Zoe 0 ops.toList=true) (hds:∀ o ∈ ops.toList,∀ k,o.dst=some k→k<N) (hl:Ts.length=ops.toList.dropLast.length)
  (hn:(l.map En.k).Nodup) (hok:okTs Ts f l) (htr:∀ i o τ,ops.toList.dropLast[i]? = some o→Ts[i]? = some τ→Tr (n+i) (gop C ops.toList (n+i) o) τ ()) (hch:Zme [] (Z5a ops.toList.dropLast []) (Ts.map λτ=>fpT τ Fp.no)=true)
  (hQ:∀ a' w',Rel N G w0 v0 (· < n+ops.toList.dropLast.length) (Z9e Ts f) (Zee Ts l) a' w'→wpList C.P ops Q [ol] a' w'):∀ (fuel:Nat) (listed:Array Bool) (a:Act) (w:World),left listed=fuel+1→listed.getD ops.toList.dropLast.length true=false→Inv N G w0 v0 ops Ts f l n listed a w→wpAny C.P .any ops Q (fuel+1) listed a w:=by
 have hsz:ops.size=ops.toList.dropLast.length+1:=by
  have:=congrArg List.length he;simp at this ⊢;omega
 have initAt:∀ {j:Nat} {o:Oper},ops.toList.dropLast[j]? = some o→ops[j]? = some o:=λ{j o} h=>by
  rw[← Array.getElem?_toList,← he,List.getElem?_append_left (List.getElem?_eq_some_iff.1 h).1];exact h
 have lastAt:ops[ops.toList.dropLast.length]? = some ol:=by
  rw[← Array.getElem?_toList]
  conv=>lhs;rw[← he]
  simp
 have ord:∀ (i j:Nat) (τ σ:List Et),i<j→Ts[i]? = some τ→Ts[j]? = some σ→∃ m,(Z5a ops.toList.dropLast [])[j]? = some m∧(m.testBit i=true∨Apart τ σ):=by
  intro i j τ σ hij hτ hσ;obtain⟨m,h1,h2⟩:=ZQl hch j (fpT σ Fp.no) (by simp[hσ]);refine⟨m,h1,(h2 i (fpT τ Fp.no) (by simp[hτ]) (by simpa using hij)).imp_right Z9q⟩
 have opAt:∀ (j:Nat) (σ:List Et),Ts[j]? = some σ→∃ o,ops.toList.dropLast[j]? = some o:=λj σ h=>by
  have:=(List.getElem?_eq_some_iff.1 h).1;rw[hl]at this;exact⟨_,List.getElem?_eq_getElem this⟩
 have hsub:∀ {listed:Array Bool} {a:Act} {w:World},Inv N G w0 v0 ops Ts f l n listed a w→∀ j o,ops.toList.dropLast[j]? = some o→listed.getD (([]:List Nat).length+j) false=true→∀ e ∈ o.after,Region.binds .any e=true→listed.getD e.on false=true:=λhI j o ho hS=>hI.closed j o (initAt ho) (by simpa using hS);intro fuel
 induction fuel with
 | zero =>
  intro listed a w hfu hlast hI;have hll:ops.toList.dropLast.length<listed.size:=by rw[hI.size];omega
  have h0:left (listed.setIfInBounds ops.toList.dropLast.length true)=0:=by have:=Zni hlast;omega
  have hall':∀ j,(listed.setIfInBounds ops.toList.dropLast.length true).getD j true=true:=λj=>Zrm h0;have hall:∀ j,j≠ops.toList.dropLast.length→j<listed.size→listed.getD j false=true:=λj hj hlt=>by
   have:=hall' j;rw[← Z8b hlt];rw[Zml hj]at this;exact this
  refine⟨λh0=>?_,λi hi=>?_⟩
  ·exact absurd h0 (ZCj hb hI.size (ops.toList.dropLast.length+1) ops.toList.dropLast.length (by omega) (by omega) hlast)
  ·obtain⟨hun,o,ho,hbef⟩:=mem_ready.1 hi;have hil:i<listed.size:=by rw[hI.size];exact Zgc ho
   have hi2:i=ops.toList.dropLast.length:=by
    rcases Nat.decEq i ops.toList.dropLast.length with h | h
    ·have:=hall i h hil;rw[← Z8b hil,hun]at this;cases this
    ·exact h
   subst hi2;rw[lastAt]at ho
   cases ho
   obtain⟨f1,l1,⟨γ,v,ℓ,h1⟩,h2,h3⟩:=hI.rel;obtain⟨k1,k2,k3⟩:=Zul (b:=0) hok hn;have hsel:∀ (j:Nat) (σ:List Et),Ts[j]? = some σ→sel listed (0+j)=true:=λj σ h=>by
    have hj:=(List.getElem?_eq_some_iff.1 h).1;rw[hl]at hj;rw[Nat.zero_add];exact hall j (by omega) (by omega)
   have hw:=hQ a w ⟨γ,v,ℓ,(h1.look k1 (λt=>by rw[k2 t,h2 t];exact (Zpe λj σ hj _=>(hsel j σ hj).symm)) λt=>by rw[k3 t,h3 t];exact (Zpe λj σ hj _=>(hsel j σ hj).symm)).mono (λk hk=>?_) λk hk=>?_⟩
   ·unfold wpOp;rw[lastAt];unfold wpList at hw;have hwt:Region.wanted ol (yielded ops a.tmps)=true:=ZRa hg;simp only[hwt,if_true]at hw ⊢;refine hw.imp_left (Oper.wp_mono λa' w' hq=>⟨?_,hq⟩)
    cases hx:Region.ready .any ops (listed.setIfInBounds ops.toList.dropLast.length true) with
    | nil=>rfl
    | cons p r =>
     obtain⟨h1,_⟩:=mem_ready.1 (show p ∈ Region.ready .any ops (listed.setIfInBounds ops.toList.dropLast.length true) by rw[hx];simp);rw[hall' p]at h1;cases h1
   all_goals
    rcases hk with hk | ⟨j,hj,rfl⟩
    ·omega
    ·have hlt:j<listed.size:=by
      rcases Nat.lt_or_ge j listed.size with h | h
      ·exact h
      ·simp[Array.getElem?_eq_none h]at hj
     have hne:j≠ops.toList.dropLast.length:=λe=>by
      rw[e,← Z8b hll,hlast]at hj;cases hj
     rw[hI.size]at hlt;show n+j<n+_;omega
 | succ fuel ih =>
  intro listed a w hfu hlast hI;refine⟨λh0=>?_,λi hi=>?_⟩
  ·exact absurd h0 (ZCj hb hI.size (ops.toList.dropLast.length+1) ops.toList.dropLast.length (by omega) (by omega) hlast)
  ·obtain⟨hun,o,ho,hall⟩:=mem_ready.1 hi;have hil:i<listed.size:=by rw[hI.size];exact Zgc ho
   have hunf:listed.getD i false=false:=by rw[← Z8b hil];exact hun
   have hne:i≠ops.toList.dropLast.length:=by
    intro e;subst e;rw[lastAt]at ho
    cases ho
    have hbits:∀ j,j<ops.toList.dropLast.length→listed.getD j false=true:=λj hj=>by
     rcases ZKi (hanc j hj) with h | ⟨e,h1,h2,h3⟩
     ·simp at h
     ·have hS:=hall e (by simpa using h1) h2;rcases h3 with h3 | h3
      ·rw[h3];exact hS
      ·cases hg:(Z5a ops.toList.dropLast [])[e.on]? with
       | none=>rw[List.getD_eq_getElem?_getD,hg]at h3;simp at h3
       | some m =>
        rw[List.getD_eq_getElem?_getD,hg]at h3;have hlt:e.on<ops.toList.dropLast.length:=by
         have:=(List.getElem?_eq_some_iff.1 hg).1;rw[ZSt]at this;simpa using this
        have hoe:=List.getElem?_eq_getElem hlt;exact ZDg (S:=λk=>listed.getD k false=true) (done:=[]) (hsub hI) (λj' m' hm'=>by simp at hm') e.on _ m hoe (by simpa using hg) (hI.closed e.on _ (initAt hoe) hS) j h3
    have h0:left (listed.setIfInBounds ops.toList.dropLast.length true)=fuel+1:=by have:=Zni hlast;omega
    obtain⟨j,hj,hj2⟩:=Z6l (listed:=listed.setIfInBounds ops.toList.dropLast.length true) (by omega);have hjs:j<listed.size:=by simpa using hj
    rcases Nat.decEq j ops.toList.dropLast.length with h | h
    ·have h1:=hbits j (by rw[hI.size]at hjs;omega);rw[← Z8b hjs]at h1;rw[Zml h,h1]at hj2;cases hj2
    ·subst h;have:(listed.setIfInBounds ops.toList.dropLast.length true).getD ops.toList.dropLast.length true=true:=by simp[hjs]
     rw[this]at hj2;cases hj2
   have hlt0:i<ops.toList.dropLast.length:=by
    rw[hI.size]at hil;omega
   have ho':ops.toList.dropLast[i]? = some o:=by
    have:=List.getElem?_eq_getElem hlt0;rw[this];have h2:=initAt this;rw[ho]at h2;exact h2.symm
   have hlt:i<Ts.length:=by rw[hl];exact (List.getElem?_eq_some_iff.1 ho').1
   have hτ:Ts[i]? = some Ts[i]:=List.getElem?_eq_getElem hlt;generalize hg:Ts[i]=τ at hτ;obtain⟨fi,li,b1,b2,b3,b4⟩:=Zum (b:=0) hok hn hτ;obtain⟨f1,l1,⟨γ,v,ℓ,h1⟩,h2,h3⟩:=hI.rel;have befo:∀ (j:Nat) (σ:List Et),j<i→Ts[j]? = some σ→listed.getD j false=true∨Apart σ τ:=by
    intro j σ hj hσ;obtain⟨m,q1,q2⟩:=ord j i σ τ hj hσ hτ;refine q2.imp_left λhbit=>?_;refine ZDg (S:=λk=>listed.getD k false=true) (done:=[]) (hsub hI) (λj' m' hm'=>by simp at hm') i o m ho' (by simpa using q1) hall j hbit
   have afte:∀ (j:Nat) (σ:List Et),i<j→Ts[j]? = some σ→listed.getD j false=false∨Apart τ σ:=by
    intro j σ hj hσ;obtain⟨m,q1,q2⟩:=ord i j τ σ hj hτ hσ;refine q2.imp_left λhbit=>?_
    cases hx:listed.getD j false with
    | false=>rfl
    | true =>
     obtain⟨oj,hoj⟩:=opAt j σ hσ;have:=ZDg (S:=λk=>listed.getD k false=true) (done:=[]) (hsub hI) (λj' m' hm'=>by simp at hm') j oj m hoj (by simpa using q1) (hI.closed j oj (initAt hoj) hx) i hbit;rw[hunf]at this;cases this
   have same:∀ {β:Type} (eff:List Et→Nat→Option β) (P:Nat→Prop) (acc:β) (t:Nat),P t→(∀ σ,Apart σ τ→P t→eff σ t≠none→False)→(∀ σ,Apart τ σ→P t→eff σ t≠none→False)→ZDa eff (λj=>decide (j<0+i)) Ts 0 acc t=ZDa eff (sel listed) Ts 0 acc t:=by
    intro β eff P acc t hP hA hB;refine Zpe λj σ hj hne=>?_;simp only[Nat.zero_add];rcases Nat.lt_trichotomy j i with h | h | h
    ·rcases befo j σ h hj with q | q
     ·rw[dT h];exact q.symm
     ·exact (hA σ q hP hne).elim
    ·subst h;rw[dFq (Nat.lt_irrefl _)];exact hunf.symm
    ·rcases afte j σ h hj with q | q
     ·rw[dFq (by omega)];exact q.symm
     ·exact (hB σ q hP hne).elim
   have okτ:okT τ f1 l1:=by
    refine Zge b2 h1.nd b1 (λt ht=>?_) λt ht=>?_
    ·rw[b3 t,h2 t];exact same Zmb (rdS τ) _ t ht (λσ q hp hne=>q.s1 t hne hp) λσ q hp hne=>q.s3 t hp hne
    ·rw[b4 t,h3 t];exact same ZBa (rdL τ) _ t ht (λσ q hp hne=>q.l1 t hne hp) λσ q hp hne=>q.l3 t hp hne
   have hruns:=Zmm (htr i o τ ho' hτ) okτ;have hnU:¬ UE n listed (n+i):=by
    rintro (h | ⟨j,hj,e⟩)
    ·omega
    ·have:i=j:=by omega
     subst this;rw[hunf]at hj;cases hj
   have selS:∀ j,sel (listed.setIfInBounds i true) j=if i=j then true else sel listed j:=λj=>by
    by_cases h:i=j
    ·subst h;rw[iP rfl];exact ZUb hil
    ·rw[iN h];exact Z0a h
   have hUE:∀ k,UE n listed k→UE n (listed.setIfInBounds i true) k:=by
    rintro k (h | ⟨j,hj,e⟩)
    ·exact .inl h
    ·refine .inr ⟨j,?_,e⟩;have:=selS j;unfold sel at this;rw[this,hj];split <;> rfl
   have hXi:UE n (listed.setIfInBounds i true) (n+i):=.inr ⟨i,ZUb hil,rfl⟩;have hgg:=Zqh (X:=UE n (listed.setIfInBounds i true)) hC (h1.mono (λ_ h=>h) hUE) hUE hXi hnU hds (hds o (by rw[← he];exact List.mem_append_left _ (mG ho'))) hruns;have upd:∀ {β:Type} (eff:List Et→Nat→Option β) (acc:β) (t:Nat),(∀ σ,Apart τ σ→eff τ t≠none→eff σ t≠none→False)→ZDa eff (sel (listed.setIfInBounds i true)) Ts 0 acc t=(eff τ t).getD (ZDa eff (sel listed) Ts 0 acc t):=by
    intro β eff acc t hA
    cases he:eff τ t with
    | none =>
     refine Zpe λj σ hj hne=>?_;rw[Nat.zero_add,selS j,iN];intro e;subst e;rw[hτ]at hj;cases hj;exact hne he
    | some z =>
     refine Z2m (k:=i) hτ (by rw[Nat.zero_add,selS i,iP rfl]) he λj σ hij hσ hs=>?_;rw[Nat.zero_add,selS j,iN (by omega)]at hs;rcases afte j σ hij hσ with q | q
     ·rw[show sel listed j=false from q]at hs;cases hs
     ·cases hx:eff σ t with
      | none=>rfl
      | some y=>exact (hA σ q (by rw[he];exact λe=>by cases e) (by rw[hx];exact λe=>by cases e)).elim
   have nxt:∀ f' l' a' w',((()=()∧f'=Zoc τ f1∧l'=Zhc τ l1)∧True)→Rel N G w0 v0 (UE n (listed.setIfInBounds i true)) f' l' a' w'→wpAny C.P .any ops Q (fuel+1) (listed.setIfInBounds i true) a' w':=by
    rintro f' l' a' w' ⟨⟨_,rfl,rfl⟩,_⟩ hr;refine ih _ _ _ (by have:=Zni hun;omega) (by
     rw[Zml (Ne.symm hne)];exact hlast) ⟨by simp[hI.size],λj oj hj hlj e he hbb=>?_,_,_,hr,λt=>?_,λt=>?_⟩
    ·have hj2:=selS e.on;have hj3:=selS j;unfold sel at hj2 hj3;rw[hj2];split
     ·rfl
     ·rw[hj3]at hlj;split at hlj
      ·rename_i hij;subst hij;rw[ho]at hj;cases hj;exact hall e he hbb
      ·exact hI.closed j oj hj hlj e he hbb
    ·rw[Zjd okτ,h2 t];exact (upd Zmb _ t λσ q hp hne=>q.s2 t hp hne).symm
    ·rw[(Z2c h1.nd okτ).2 t,h3 t];exact (upd ZBa _ t λσ q hp hne=>q.l2 t hp hne).symm
   unfold wpOp;rw[ho];rcases hgg with ⟨hw,hg⟩ | ⟨hw,f',l',q1,q2⟩
   ·simp only[hw,if_true];exact .inl (ZVi rfl hg λx w' ⟨f',l',q1,q2⟩=>nxt f' l' _ w' ⟨⟨rfl,q1.2⟩,trivial⟩ q2)
   ·simp only[hw];exact nxt f' l' _ w ⟨⟨rfl,q1.2⟩,trivial⟩ q2
end
end Go.Eng
namespace Go.Eng
open Go.RowKit
def Pin (ks:List Nat) (pv:Nat→Value) (a:Act):Prop:=∀ t,Zja ks t=true→a.tmps.getD t undef=pv t
def Pn (ks:List Nat) (pv:Nat→Value) (Q:Exit→Act→World→Prop):Exit→Act→World→Prop:=λe a w=>(e ≠ .outgrown→Pin ks pv a)→Q e a w
theorem Pin.nil {pv:Nat→Value} {a:Act}:Pin [] pv a:=λ_ h=>by cases h
theorem Pin.put {ks:List Nat} {pv:Nat→Value} {a:Act} (h:Pin ks pv a) {o:Oper} (hd:∀ k,o.dst=some k→Zja ks k=false) (y:Value):Pin ks pv (a.put o.dst y):=λt ht=>by
 cases hk:o.dst with
 | none=>exact h t ht
 | some d =>
  have hne:¬ d=t:=λe=>by subst e;rw[hd d hk]at ht;cases ht
  have:(a.put (some d) y).tmps.getD t undef=a.tmps.getD t undef:=by simp[Act.put,Array.getElem?_setIfInBounds_ne hne]
  rw[this];exact h t ht
theorem Pin.defer {ks:List Nat} {pv:Nat→Value} {a:Act} (h:Pin ks pv a) (d:Deferred):Pin ks pv { a with defers:=d :: a.defers }:=h
theorem ZZs {P:Program} {ks:List Nat} {pv:Nat→Value} {Q:Exit→Act→World→Prop} {o:Oper} {a:Act} {K K':Act→World→Prop} (hp:Pin ks pv a) (hd:∀ k,o.dst=some k→Zja ks k=false) (hK:∀ a' w',Pin ks pv a'→K a' w'→K' a' w') {r:Result Go.Next} (h:o.upon P a K (Pn ks pv Q) r):o.upon P a K' Q r:=by
 cases r with
 | ok n w' =>
  cases n <;> simp only[Oper.upon]at h ⊢
  case value v=>exact hK _ _ (hp.put hd v) h
  case skip=>exact hK _ _ (hp.put hd _) h
  case defer d=>exact hK _ _ ((hp.defer d).put hd _) h
  case enter f args =>
   refine Calls.mono h λe w'' he=>?_
   cases e with
   | returned v=>exact hK _ _ (hp.put hd v) he
   | panicked c=>exact he λ_=>hp
   | outgrown=>obtain⟨a1,w1,h1⟩:=he;exact⟨a1,w1,h1 λe=>absurd rfl e⟩
  case row row args=>exact Rows.mono h λv w'' he=>hK _ _ (hp.put hd v) he
  all_goals exact h
 | halt x w' =>
  cases x <;> simp only[Oper.upon]at h ⊢
  case panic v=>exact h λ_=>hp
  all_goals exact h
theorem Zmr {ks:List Nat} {pv:Nat→Value} {Q:Exit→Act→World→Prop} (h:LetsOut (Pn ks pv Q)):LetsOut Q:=by
 obtain⟨a1,w1,h1⟩:=h;exact⟨a1,w1,h1 λe=>absurd rfl e⟩
theorem Z0k {P:Program} {ks:List Nat} {pv:Nat→Value} {Q:Exit→Act→World→Prop} {ops:Array Oper}:∀ {os:List Oper} {a:Act} {w:World},(∀ o ∈ os,∀ k,o.dst=some k→Zja ks k=false)→Pin ks pv a→wpList P ops (Pn ks pv Q) os a w→wpList P ops Q os a w
 | [],a,w,_,hp,h=>h λ_=>hp
 | o :: os,a,w,hd,hp,h=>by
  have hd1:=hd o (by simp)
  have ih:∀ a' w',Pin ks pv a'→wpList P ops (Pn ks pv Q) os a' w'→wpList P ops Q os a' w':=λa' w' hp' h'=>Z0k (λo ho=>hd o (by simp[ho])) hp' h'
  unfold wpList at h ⊢
  split
  ·rename_i hw
   simp only[hw,if_true]at h
   rcases h with h | ⟨h1,h2⟩
   ·exact .inl (ZZs hp hd1 ih h)
   ·exact .inr ⟨h1,Zmr h2⟩
  ·rename_i hw
   simp only[hw]at h
   exact ih _ _ (hp.put hd1 _) h
theorem ZPg {P:Program} {ks:List Nat} {pv:Nat→Value} {Q:Exit→Act→World→Prop} {ops:Array Oper} (hd:∀ o ∈ ops.toList,∀ k,o.dst=some k→Zja ks k=false):∀ {fuel:Nat} {listed:Array Bool} {a:Act} {w:World},Pin ks pv a→wpAny P .any ops (Pn ks pv Q) fuel listed a w→wpAny P .any ops Q fuel listed a w
 | 0,listed,a,w,hp,h=>⟨h.1,h.2 λ_=>hp⟩
 | fuel+1,listed,a,w,hp,h=>by
  refine⟨λh0=>h.1 h0 λ_=>hp,λi hi=>?_⟩
  have h:=h.2 i hi
  unfold wpOp at h ⊢
  split
  ·rename_i ho
   simp only[ho]at h
   exact ZPg hd hp h
  ·rename_i o ho
   simp only[ho]at h
   have hd1:=hd o (by rw[← Array.getElem?_toList]at ho;exact mG ho)
   split
   ·rename_i hw
    simp only[hw,if_true]at h
    rcases h with h | ⟨h1,h2⟩
    ·exact .inl (ZZs hp hd1 (λa' w' hp' h'=>ZPg hd hp' h') h)
    ·exact .inr ⟨h1,Zmr h2⟩
   ·rename_i hw
    simp only[hw]at h
    exact ZPg hd (hp.put hd1 _) h
section
variable {N:Nat} {G:V→Value→Prop} {w0:Base} {v0:Zb}
def Znc (N:Nat) (G:V→Value→Prop) (w0:Base) (v0:Zb) (n:Nat) (f:Fr) (l:Lo) (p:Fr→Lo→Nat→Prop) (S:Act→World→Prop):Prop :=
 ∀ f' l' n' a' w',p f' l' n'→n≤n'→Old n f l f' l'→Rel N G w0 v0 (· < n') f' l' a' w'→S a' w'
theorem Znc.step {n n1:Nat} {f f1:Fr} {l l1:Lo} {p:Fr→Lo→Nat→Prop} {S:Act→World→Prop} (h:Znc N G w0 v0 n f l p S) (hn:n≤n1) (ho:Old n f l f1 l1):Znc N G w0 v0 n1 f1 l1 p S :=
 λf' l' n' a' w' hp hn' ho' hr=>h f' l' n' a' w' hp (by omega) (ho.trans ho' hn) hr
theorem draw_ok {C:Cf} (hC:CfOK C) {α:Type} {r:α} {id:Nat} {ops:Array Oper} {f:Fr} {l:Lo} {n:Nat} {K:Fr→Lo→Nat→Option α} {Q:Exit→Act→World→Prop} {a:Act} {w:World} (hm:C.P.follows .mixedOrders=true) (hb:Zoe 0 ops.toList=true) (hds:∀ o ∈ ops.toList,∀ k,o.dst=some k→k<N) {ks:List Nat} {pv:Nat→Value} (hks:∀ o ∈ ops.toList,∀ k,o.dst=some k→Zja ks k=false) (hpn:Pin ks pv a)
  (h:(ZIf C ops.toList ops.toList f l n λf l n ps=>match Zme [] (Z5a ops.toList []) ps with
   | true=>K f l n
   | false=>none)=some r) (hr:Rel N G w0 v0 (· < n) f l a w) (hQ:Znc N G w0 v0 n f l (λf l n=>K f l n=some r) (Pn ks pv Q .normal)):(Code.region id ops true).wp C.P Q a w:=by
 obtain⟨Ts,h1,h2,h3,h4⟩:=Zqn h;split at h4
 ·rename_i hch;have hn:(l.map En.k).Nodup:=by obtain⟨_,_,_,hr⟩:=hr;exact hr.nd
  refine wp_region_any hm (ZPg hks hpn ?_);have hz:∀ j,(Array.replicate ops.size false).getD j false=false:=λj=>getD_replicate_false _ _;have hl:left (Array.replicate ops.size false)=ops.size:=by simp[left]
  refine Ziw hC (Ts:=Ts) hb hds h1 hn h2 h3 hch (λa' w' hr'=>hQ _ _ _ a' w' h4 (by omega) (Z5l (Nat.le_refl n) h1 h2 hn h3) hr') ops.size _ a w.drew hl ⟨by simp,λj o _ hj=>?_,f,l,?_,λt=>?_,λt=>?_⟩
  ·rw[hz]at hj;cases hj
  ·obtain⟨γ,v,ℓ,hr⟩:=hr.draw;exact⟨γ,v,ℓ,hr.mono (λ_ h=>.inl h) λ_ h=>.inl h⟩
  ·exact (ZVe λj _ _ hs=>by rw[show sel _ _=false from hz _]at hs;cases hs).symm
  ·exact (ZVe λj _ _ hs=>by rw[show sel _ _=false from hz _]at hs;cases hs).symm
 ·cases h4
def Zgd (C:Cf) (cf:CallF):Prop:=∀ {α:Type} {g:FuncId} {ags:V} {l:Lo} {n:Nat} {K:V→Lo→Nat→Option α} {r:α},cf α g ags l n K=some r→∀ {N:Nat} {G:V→Value→Prop} {w0:Base} {v0:Zb} {a:Act} {w:World} {γ:Nat→Gh} {v:Zb} {ℓ:List Loc} {vals:List Value},
 RelX N G w0 v0 (· < n) (· < n) [] l a w γ v ℓ→RR v γ l true ags vals→ags.ok (· < n)→ZF C.P g∧Calls C.P g vals.toArray w λe w'=>∃ y c l' n' γ' v' ℓ',e = .returned y∧K c l' n'=some r∧n≤n'∧(∀ f,Old n f l f l')∧RelX N G w0 v0 (· < n') (· < n') [] l' a w' γ' v' ℓ'∧RV v' γ' l' (ZLc c) y∧(ZLc c).ok (· < n')
theorem ZCt {U X:Nat→Prop} {f:Fr} {l:Lo} {a:Act} {w:World} {γ:Nat→Gh} {v:Zb} {ℓ:List Loc} (hr:RelX N G w0 v0 U X f l a w γ v ℓ):∀ {xs:List Operand} {c:V},Zrk f xs=some c→RR v γ l true c (xs.map a.eval)∧c.ok U
 | [],c,h=>by cases h;exact⟨rfl,trivial⟩
 | x :: xs,c,h=>by
  simp only[Zrk]at h
  split at h
  ·cases h
  ·rename_i V1 c1 hnt h1 h2
   cases h
   obtain⟨q1,q2⟩:=ZEk hr h1
   obtain⟨q3,q4⟩:=ZCt hr h2
   obtain⟨cs,hcs,hqe⟩:=Z8a q1 (λc e=>hnt c (by rw[e]))
   exact⟨⟨cs,_,by rw[List.map_cons,hqe],hcs,q3⟩,q2,q4⟩
  ·cases h
theorem Zys {v:Zb} {γ:Nat→Gh} {l:Lo} {U:Nat→Prop}:∀ {c d:V} {xs ys:List Value},RR v γ l true c xs→RR v γ l true d ys→c.ok U→d.ok U→RR v γ l true (appV c d) (xs++ys)∧(appV c d).ok U
 | .nl,d,xs,ys,h,k,_,kd=>by rw[show xs=[] from h];exact⟨k,kd⟩
 | .cons a b,d,xs,ys,⟨cs,zs,e1,e2,e3⟩,k,kc,kd=>by
  subst e1
  obtain⟨q1,q2⟩:=Zys (c:=b) e3 k kc.2 kd
  exact⟨⟨cs,_,rfl,e2,q1⟩,kc.1,q2⟩
theorem Zln {C:Cf} {cf:CallF} (hcf:Zgd C cf) {α:Type} {r:α} {o:Oper} {g:FuncId} {ags:V} {f0 f:Fr} {l:Lo} {n:Nat} {K:Fr→Lo→Nat→Option α} {a:Act} {w:World} {γ:Nat→Gh} {v:Zb} {ℓ:List Loc} (hi:Z1f C f0 o=some (g,ags)) (h:inl1 cf o g ags f l n K=some r)
  (hr0:RelX N G w0 v0 (· < n) (· < n) f0 l a w γ v ℓ) (hr:RelX N G w0 v0 (· < n) (· < n) f l a w γ v ℓ) (hd:∀ k,o.dst=some k→k<N):Zpb C.P o a w λx w'=>∃ f' l' n',K f' l' n'=some r∧n≤n'∧Old n f l f' l'∧Rel N G w0 v0 (· < n') f' l' (a.put o.dst x) w':=by
 obtain⟨d,op,ty,pos,aft,gd⟩:=o;unfold Z1f at hi;split at hi
 ·rename_i c hop;have hop:op = .call c:=hop;subst hop;obtain⟨callee,args,ats⟩:=c;split at hi
  ·rename_i x hx;have hx:callee = .value x:=hx;subst hx;split at hi
   ·rename_i g' cap hg;split at hi
    ·cases hi
    ·split at hi
     ·rename_i ags' has
      cases hi
      unfold inl1 at h
      cases d with
      | none=>cases h
      | some d =>
       obtain⟨q1,q2⟩:=ZEk hr0 hg;obtain⟨cs,⟨vs,q3,rfl⟩,q4⟩:=q1;have q4:a.eval x = .func (.func g) #[] vs.toArray:=q4;obtain⟨q5,q6⟩:=ZCt hr0 has;obtain⟨q7,q8⟩:=Zys q5 q3 q6 q2;have hlt:∀ k,k<n→k<n+1:=λk h=>by omega
       let G':V→Value→Prop:=λx y=>G x y ∨ ∃ t e,lkE f t=some e∧x=e.x∧y=a.tmps.getD t undef
       have hrG:RelX N G' w0 v0 (· < n+1) (· < n+1) [] l a w γ v ℓ:=by
        have hm:=hr.mono hlt hlt;refine⟨hm.st,λt e he=>(by cases he),hm.lr,hm.nd,λt e he=>(by cases he),hm.ul,λx y hg=>?_⟩;rcases hg with hg | ⟨t,e,h1,rfl,rfl⟩
        ·exact hm.gh x y hg
        ·exact⟨hm.fr t e h1,(hm.uf t e h1).1⟩
       obtain⟨hen,hcalls⟩:=hcf h hrG q7 (V.ok.mono hlt q8);obtain⟨σ,hσ,hev⟩:=hr0.st.evs (x :: args.toList);have hfx:=hev x (by simp);rw[q4]at hfx;have hargs:args.toList.map (ev σ)=(args.toList.map a.eval).map some:=by
        rw[List.map_map];exact List.map_congr_left λy hy=>hev y (by simp[hy])
       have hrun:=Zas (d:=some d) (ty:=ty) (pos:=pos) (aft:=aft) (g:=gd) (ats:=ats) hσ _ _ hen hfx hargs;refine ZXc hrun (Calls.mono hcalls λe w' ⟨y,c,l',n',γ',v',ℓ',e1,e2,e3,e4,e5,e6,e7⟩=>⟨y,e1,_,l',n',e2,by omega,((e4 f).mono (by omega)).trans (Old.put (Nat.le_refl n)) (Nat.le_refl n),γ',v',ℓ',?_⟩);have hr2:RelX N G w0 v0 (· < n') (· < n') f l' a w' γ' v' ℓ':=by
        refine⟨e5.st,λt e he=>(e5.gh _ _ (.inr ⟨t,e,he,rfl,rfl⟩)).1,e5.lr,e5.nd,λt e he=>⟨(e5.gh _ _ (.inr ⟨t,e,he,rfl,rfl⟩)).2,?_⟩,e5.ul,λx y hg=>e5.gh x y (.inl hg)⟩;have:=(hr.uf t e he).2;show e.st<n';have:e.st<n:=this;omega
       exact hr2.put (hd d rfl) e6 e7 (show n<n' by omega)
     ·cases hi
   ·cases hi
  ·cases hi
 ·cases hi
theorem ZYo {C:Cf} {cf:CallF} (hcf:Zgd C cf) {α:Type} {r:α} {ops:Array Oper} {o:Oper} {rest:List Oper} {g:FuncId} {ags:V} {f:Fr} {l:Lo} {n:Nat} {K:Fr→Lo→Nat→Option α} {Q:Exit→Act→World→Prop} {a:Act} {w:World} (hi:Z1f C f o=some (g,ags)) (h:inlG cf ops.toList o g ags f l n K=some r)
  (hr:Rel N G w0 v0 (· < n) f l a w) (hds:∀ o ∈ ops.toList,∀ k,o.dst=some k→k<N) (hd:∀ k,o.dst=some k→k<N) (hQ:Znc N G w0 v0 n f l (λf l n=>K f l n=some r) λa w=>wpList C.P ops Q rest a w):wpList C.P ops Q (o :: rest) a w:=by
 obtain⟨γ,v,ℓ,hr⟩:=hr;have yes:∀ {f1:Fr},Old n f l f1 l→RelX N G w0 v0 (· < n) (· < n) f1 l a w γ v ℓ→Region.wanted o (yielded ops a.tmps)=true→inl1 cf o g ags f1 l n K=some r→wpList C.P ops Q (o :: rest) a w:=λho hr1 hw h =>
  ZQc hw (ZRf (Zln hcf hi h hr hr1 hd) λx w' ⟨f',l',n',e1,e2,e3,e4⟩=>hQ f' l' n' _ w' e1 e2 (ho.trans e3 (Nat.le_refl n)) e4)
 have no:∀ {f1:Fr},Old n f l f1 l→RelX N G w0 v0 (· < n) (· < n) f1 l a w γ v ℓ→Region.wanted o (yielded ops a.tmps)=false→Zhj o f1 l n K=some r→wpList C.P ops Q (o :: rest) a w:=λho hr1 hw h=>by
  have h1:=ZQd (Nat.le_refl n) Old.refl hr1.nd (Z6c h);obtain⟨f',l',⟨q1,q2⟩,q3⟩:=Zxj (X:=(· < n+1)) (hr1.mono (λ_ h=>h) λk h=>(show k<n+1 by have:k<n:=h;omega)) (λk h=>(show k<n+1 by have:k<n:=h;omega)) (Nat.lt_succ_self n) hd h1;unfold wpList;rw[iN (by rw[hw];decide)];exact hQ f' l' _ _ w q1 (by omega) (ho.trans q2 (Nat.le_refl n)) q3
 unfold inlG at h;split at h
 ·rename_i hg;exact yes Old.refl hr (ZRa hg) h
 ·rename_i j want hg;split at h
  ·rename_i q hq;split at h
   ·rename_i t ht;have htN:t<N:=hds q (mG hq) t ht;have hgd:(ops[j]?).bind (·.dst)=some t:=by rw[← Array.getElem?_toList,hq];exact ht
    obtain⟨σ,hσ,hev⟩:=hr.st.evs [.tmp t];have hl:look σ t=some (a.tmps.getD t undef):=hev (.tmp t) (by simp);split at h
    ·rename_i ek s b he;have hk:ek=t:=(Zk he).2;subst hk;have h2:a.tmps.getD ek undef = .bool b:=Z7e (hr.fr ek _ he);rw[h2]at hl;have hdup:=RelX.dup hr he;have hold:=Old.dup (m:=n) (l:=l) he
     cases want <;> cases b
     ·exact yes hold hdup (ZQe hσ hg hgd hl htN) h
     ·exact no hold hdup (Zhi hσ hg hgd hl htN) h
     ·exact no hold hdup (Zhi hσ hg hgd hl htN) h
     ·exact yes hold hdup (ZQe hσ hg hgd hl htN) h
    ·rename_i ek s he;have hk:ek=t:=(Zk he).2;subst hk;obtain⟨cs,h1,h2⟩:=hr.fr ek _ he;have h1:cs=[undef]:=h1;subst h1;have h2:a.tmps.getD ek undef=undef:=h2;rw[h2]at hl;exact no Old.refl hr (ZVd hσ hg hgd hl htN) h
    ·cases h
   ·cases h
  ·cases h
theorem Zbj {C:Cf} (hC:CfOK C) {cf:CallF} (hcf:Zgd C cf) {α:Type} {r:α} {ops:Array Oper} {Q:Exit→Act→World→Prop} (hds:∀ o ∈ ops.toList,∀ k,o.dst=some k→k<N) {K:Fr→Lo→Nat→Option α}:∀ {os:List Oper} {f:Fr} {l:Lo} {n:Nat} {a:Act} {w:World},ZXb C cf ops.toList os f l n K=some r→(∀ o ∈ os,o ∈ ops.toList) →
  Rel N G w0 v0 (· < n) f l a w→Znc N G w0 v0 n f l (λf l n=>K f l n=some r) (Q .normal)→wpList C.P ops Q os a w
 | [],f,l,n,a,w,h,_,hr,hQ=>hQ f l n a w h (Nat.le_refl n) Old.refl hr
 | o :: os,f,l,n,a,w,h,hos,hr,hQ=>by
  have hd:=hds o (hos o (by simp))
  simp only[ZXb]at h
  split at h
  ·obtain⟨γ,v,ℓ,hr⟩:=hr
   have h1:=ZQd (Nat.le_refl n) Old.refl hr.nd (Z6c h)
   refine (Zqh hC (X:=(· < n+1)) (hr.mono (λ_ h=>h) λk h=>(show k<n+1 by have:k<n:=h;omega)) (λk h=>(show k<n+1 by have:k<n:=h;omega)) (Nat.lt_succ_self n) (Nat.lt_irrefl n) hds hd h1).list λf' l' a' w' ⟨q1,q2⟩ q3=>?_
   exact Zbj hC hcf hds q1 (λo ho=>hos o (by simp[ho])) q3 (hQ.step (by omega) q2)
  ·rename_i g ags hi
   refine ZYo hcf hi h hr hds hd λf' l' n' a' w' q1 q2 q3 q4=>?_
   exact Zbj hC hcf hds q1 (λo ho=>hos o (by simp[ho])) q4 (hQ.step q2 q3)
theorem Zgm {C:Cf} (hC:CfOK C) {cf:CallF} (hcf:Zgd C cf) {α:Type} {r:α} {ops:Array Oper} {Q:Exit→Act→World→Prop} (hds:∀ o ∈ ops.toList,∀ k,o.dst=some k→k<N) {K:Fr→Lo→Nat→Option α} {rest:List Oper}:∀ {os:List Oper} {f:Fr} {l:Lo} {n:Nat} {a:Act} {w:World},ZXb C cf ops.toList os f l n K=some r→(∀ o ∈ os,o ∈ ops.toList) →
  Rel N G w0 v0 (· < n) f l a w→Znc N G w0 v0 n f l (λf l n=>K f l n=some r) (wpList C.P ops Q rest)→wpList C.P ops Q (os++rest) a w
 | [],f,l,n,a,w,h,_,hr,hQ=>hQ f l n a w h (Nat.le_refl n) Old.refl hr
 | o :: os,f,l,n,a,w,h,hos,hr,hQ=>by
  have hd:=hds o (hos o (by simp))
  simp only[ZXb]at h
  split at h
  ·obtain⟨γ,v,ℓ,hr⟩:=hr
   have h1:=ZQd (Nat.le_refl n) Old.refl hr.nd (Z6c h)
   refine (Zqh hC (X:=(· < n+1)) (hr.mono (λ_ h=>h) λk h=>(show k<n+1 by have:k<n:=h;omega)) (λk h=>(show k<n+1 by have:k<n:=h;omega)) (Nat.lt_succ_self n) (Nat.lt_irrefl n) hds hd h1).list λf' l' a' w' ⟨q1,q2⟩ q3=>?_
   exact Zgm hC hcf hds q1 (λo ho=>hos o (by simp[ho])) q3 (hQ.step (by omega) q2)
  ·rename_i g ags hi
   refine ZYo hcf hi h hr hds hd λf' l' n' a' w' q1 q2 q3 q4=>?_
   exact Zgm hC hcf hds q1 (λo ho=>hos o (by simp[ho])) q4 (hQ.step q2 q3)
theorem ZGz {C:Cf} {ops:List Oper} {o:Oper} {x:Operand} (h:Zmj C ops=some (o,x)):∃ p ats d ty pos aft,C.ex.pan=some p∧ops=ops.dropLast++[o]∧o=⟨some d,.call ⟨.value (.func p.1),#[x],ats⟩,ty,pos,aft,none⟩:=by
 unfold Zmj at h;split at h
 ·cases h
 ·rename_i p hp;split at h
  ·cases h
  ·rename_i o' ho;split at h
   ·rename_i c d hop hg hd;split at h
    ·rename_i g x' hcal hargs;split at h
     ·rename_i hb
      cases h
      have hb:=eQ hb;subst hb;obtain⟨dd,op,ty,pos,aft,gd⟩:=o;obtain⟨callee,args,ats⟩:=c;have hop:op=_:=hop;have hg:gd=none:=hg;have hd:dd=some d:=hd;have hcal:callee=_:=hcal;have hargs:args.toList=[x]:=hargs;subst hop hg hd hcal;obtain rfl:args = #[x]:=by cases args;simp_all
      refine⟨p,ats,d,ty,pos,aft,hp,?_,rfl⟩;obtain⟨ys,hys⟩:=List.getLast?_eq_some_iff.1 ho;rw[hys,List.dropLast_concat]
     ·cases h
    ·cases h
   ·cases h
theorem must_ok {C:Cf} (hC:CfOK C) {cf:CallF} (hcf:Zgd C cf) {α:Type} {r:α} {ops:Array Oper} {o:Oper} {x:Operand} {Q Q':Exit→Act→World→Prop} (hds:∀ o ∈ ops.toList,∀ k,o.dst=some k→k<N) (hm:Zmj C ops.toList=some (o,x)) {K:Kt α} {f:Fr} {l:Lo} {n:Nat} {a:Act} {w:World}
  (h:imust C cf ops.toList o x f l n K=some r) (hr:Rel N G w0 v0 (· < n) f l a w) (hQ:Znc N G w0 v0 n f l (λf l n=>K.norm f l n=some r) (Q .normal)) (hE:Znc N G w0 v0 n f l (λf l n=>K.exit 999 f l n=some r) (Q' (.exit 999)))
  (hQ':∀ p,C.ex.pan=some p→∀ a w,Q' (.exit 999) a w→Q (.panic p.2) a w):wpList C.P ops Q ops.toList a w:=by
 obtain⟨p,ats,d,ty,pos,aft,hp,hops,ho⟩:=ZGz hm;have hMust:Zik C.P p.1 p.2:=by have:=hC.n;unfold ZLf at this;rw[hp]at this;exact this
 have hmem:o ∈ ops.toList:=by rw[hops];simp
 rw[hops];unfold imust at h;refine Zgm hC hcf hds h (λo ho=>List.dropLast_subset _ ho) hr λf' l' n' a' w' hk hn' hold hr'=>?_;simp only at hk;split at hk
 ·rename_i b d' hv hd';obtain⟨γ,v,ℓ,hr'⟩:=hr';obtain⟨q1,q2⟩:=ZEk hr' hv;have q1:a'.eval x = .bool b:=Z7e q1;obtain⟨σ,hσ,hev⟩:=hr'.st.evs [x];have hx:=hev x (by simp);rw[q1]at hx;have hrun:=Zas (d:=some d) (ty:=ty) (pos:=pos) (aft:=aft) (g:=none) (ats:=ats) (x:=.func p.1) (xs:=#[x]) hσ [.bool b] [] hMust.1 (by rfl) (by simp[hx]);have hw:Region.wanted o (yielded ops a'.tmps)=true:=ZRa (by rw[ho]);unfold wpList;rw[iP hw];left;unfold Oper.wp;have hdN:d<N:=hds o hmem d (by rw[ho]);subst ho
  cases hd'
  rw[hrun,Oper.upon_enter]
  cases b with
  | true =>
   refine Calls.mono (hMust.2.1 w') λe w'' ⟨he,hw''⟩=>?_;subst he hw'';refine hQ _ _ _ _ _ hk (by omega) (hold.trans (Old.put (Nat.le_refl _)) hn') ⟨γ,v,ℓ,?_⟩;exact (hr'.mono (λk h=>(show k<n'+1 by have:k<n':=h;omega)) λk h=>(show k<n'+1 by have:k<n':=h;omega)).put hdN (x:=.tup .nl) ⟨[],rfl,rfl⟩ trivial (show n'<n'+1 by omega)
  | false =>
   refine Calls.mono (hMust.2.2 w') λe w'' ⟨he,hw''⟩=>?_;subst he hw'';exact hQ' p hp _ _ (hE _ _ _ _ _ hk hn' hold ⟨γ,v,ℓ,hr'⟩)
 ·cases hk
theorem Zry {C:Cf} (hC:CfOK C) {cf:CallF} (hcf:Zgd C cf) {α:Type} {r:α} {id:Nat} {ops:Array Oper} {o:Oper} {f:Fr} {l:Lo} {n:Nat} {K:Fr→Lo→Nat→Option α} {Q:Exit→Act→World→Prop} {a:Act} {w:World} (ho:ZFj ops.toList=some o) (hm:C.P.follows .mixedOrders=true) (hb:Zoe 0 ops.toList=true) (hds:∀ o ∈ ops.toList,∀ k,o.dst=some k→k<N) {ks:List Nat} {pv:Nat→Value} (hks:∀ o ∈ ops.toList,∀ k,o.dst=some k→Zja ks k=false) (hpn:Pin ks pv a)
  (h:(ZIf C ops.toList ops.toList.dropLast f l n λf l n ps=>match Zme [] (Z5a ops.toList.dropLast []) ps with
   | true=>ZXb C cf ops.toList [o] f l n K
   | false=>none)=some r) (hr:Rel N G w0 v0 (· < n) f l a w) (hQ:Znc N G w0 v0 n f l (λf l n=>K f l n=some r) (Pn ks pv Q .normal)):(Code.region id ops true).wp C.P Q a w:=by
 obtain⟨Ts,h1,h2,h3,h4⟩:=Zqn h;obtain⟨he,hg,hanc⟩:=Z4t ho;split at h4
 ·rename_i hch;have hn:(l.map En.k).Nodup:=by obtain⟨_,_,_,hr⟩:=hr;exact hr.nd
  have hsz:ops.size=ops.toList.dropLast.length+1:=by
   have:=congrArg List.length he;simp at this ⊢;omega
  have hin:∀ o ∈ ops.toList.dropLast,o ∈ ops.toList:=λo ho=>by rw[← he];exact List.mem_append_left _ ho
  have hol:o ∈ ops.toList:=by rw[← he];simp
  refine wp_region_any hm (ZPg hks hpn ?_);have hz:∀ j,(Array.replicate ops.size false).getD j false=false:=λj=>getD_replicate_false _ _;have hl:left (Array.replicate ops.size false)=ops.toList.dropLast.length+1:=by rw[← hsz];simp[left]
  have key:=Z8u (G:=G) (w0:=w0) (v0:=v0) (Q:=Pn ks pv Q) hC (Ts:=Ts) he hg hanc hb hds h1 hn h2 h3 hch (λa' w' hr'=>?_) ops.toList.dropLast.length (Array.replicate ops.size false) a w.drew hl ?_ ⟨by simp,λj o _ hj=>?_,f,l,?_,λt=>?_,λt=>?_⟩
  ·rw[← hsz]at key;exact key
  ·have hold:=Z5l (Nat.le_refl n) h1 h2 hn h3;exact Zbj hC hcf hds h4 (λo' ho'=>by rcases List.mem_singleton.1 ho' with rfl;exact hol) hr' (hQ.step (by omega) hold)
  ·rw[Z8b (by rw[Array.size_replicate];omega)];exact hz _
  ·rw[hz]at hj;cases hj
  ·obtain⟨γ,v,ℓ,hr⟩:=hr.draw;exact⟨γ,v,ℓ,hr.mono (λ_ h=>.inl h) λ_ h=>.inl h⟩
  ·exact (ZVe λj _ _ hs=>by rw[show sel _ _=false from hz _]at hs;cases hs).symm
  ·exact (ZVe λj _ _ hs=>by rw[show sel _ _=false from hz _]at hs;cases hs).symm
 ·cases h4
theorem ZRl {K:Nat} {ks:List Nat}:∀ {os:List Oper},ZKg K ks os=true→∀ o ∈ os,∀ k,o.dst=some k→k<K∧Zja ks k=false
 | [],_,_,h,_,_=>by cases h
 | o :: os,h,o',ho',k,hk=>by
  simp only[ZKg]at h
  rcases List.mem_cons.1 ho' with rfl | ho'
  ·rw[hk]at h
   simp only at h
   split at h
   ·rename_i hb hm;exact⟨lB hb,hm⟩
   ·cases h
  ·have h':ZKg K ks os=true:=by
    split at h
    ·split at h
     ·exact h
     ·cases h
    ·exact h
   exact ZRl h' o' ho' k hk
end
end Go.Eng
namespace Go.Eng
open Go.RowKit
theorem Zpv {k n:Nat}:(flK k n).size=n:=by simp[flK]
theorem Zif {k n i:Nat} {b:Bool} (h:i<n):(flK k n).getD i b=decide (i<k):=by
 simp[flK,Array.getD_eq_getD_getElem?,h]
theorem flK_out {k n i:Nat} {b:Bool} (h:n≤i):(flK k n).getD i b=b:=by
 simp[flK,Array.getD_eq_getD_getElem?,Nat.not_lt.2 h]
theorem ZTi {k n i:Nat} (h:(flK k n).getD i false=true):i<n∧i<k:=by
 rcases Nat.lt_or_ge i n with h1 | h1
 ·rw[Zif h1]at h;exact⟨h1,of_decide_eq_true h⟩
 ·rw[flK_out h1]at h;cases h
theorem ZFm {i n:Nat} (h:i<n):(flK i n).setIfInBounds i true=flK (i+1) n:=by
 apply Array.ext
 ·simp[flK]
 ·intro j h1 h2;have hj:j<n:=by simpa [flK] using h2
  by_cases e:i=j
  ·subst e;simp[flK]
  ·have h4:((flK i n).setIfInBounds i true)[j]'h1=(flK i n)[j]'(by simpa [flK] using hj):=by
    exact Array.getElem_setIfInBounds_ne (by simpa [flK] using hj) e
   rw[h4];simp only[flK,List.getElem_toArray,List.getElem_map,List.getElem_range];by_cases h3:j<i
   ·rw[dT h3,dT (show j<i+1 by omega)]
   ·rw[dFq h3,dFq (show ¬ j<i+1 by omega)]
theorem rg_any {P:Program} {ops:Array Oper} {Q:Exit→Act→World→Prop} {fl:Array Bool} {a:Act} {w:World} (h:Rg P ops Q fl (flK 0 ops.size) a w):wpAny P .any ops Q ops.size (Array.replicate ops.size false) a w:=by
 have hz:∀ j,(Array.replicate ops.size false).getD j false=false:=λj=>getD_replicate_false _ _;have hl:left (Array.replicate ops.size false)=ops.size:=by simp[left]
 have hE:∀ j,(flK 0 ops.size).getD j false=false:=λj=>by
  cases hx:(flK 0 ops.size).getD j false with
  | false=>rfl
  | true=>have:=(ZTi hx).2;omega
 exact h Zpv (λj o _ hj=>absurd ((hE j).symm.trans hj) (by simp)) _ (Array.replicate ops.size false) a hl
  ⟨by simp,λj hj=>absurd ((hz j).symm.trans hj) (by simp),λj o _ hj=>absurd ((hz j).symm.trans hj) (by simp),λj o _ hj=>absurd ((hE j).symm.trans hj) (by simp),rfl,rfl,λ_ _=>rfl⟩
section
variable {N:Nat} {G:V→Value→Prop} {w0:Base} {v0:Zb}
theorem Zan {C:Cf} {o:Oper} (h:Zyg C o=true):o.guard=none∧(∃ d,o.dst=some d)∧readK o.op=true∧onT C o=false∧onA C o=false∧onQ C o=false:=by
 unfold Zyg at h;split at h
 ·rename_i d hg hd;split at h
  ·rename_i h1 h2 h3 h4;exact⟨hg,⟨d,hd⟩,h1,h2,h3,h4⟩
  ·cases h
 ·cases h
theorem Zrv {C:Cf} {ops:List Oper} {U X:Nat→Prop} {f:Fr} {l:Lo} {a:Act} {w:World} {γ:Nat→Gh} {v:Zb} {ℓ:List Loc} {n:Nat} (hr:RelX N G w0 v0 U X f l a w γ v ℓ) (hU:∀ k,U k→X k) (hX:X n) {o:Oper} {Post:Unit→Fr→Lo→Prop} (hp:Zyg C o=true) (hd:∀ k,o.dst=some k→k<N)
  (h:Zj n (gop C ops n o) f l Post):Zqg C.P N G w0 v0 X o a w Post:=by
 obtain⟨hg,_,hk,hT,hA',hQ⟩:=Zan hp;unfold gop at h;rw[hg]at h;simp only at h;obtain⟨d,op,ty,pos,aft,g⟩:=o
 cases op with
 | move x =>
  simp only[ZM]at h;obtain⟨V1,h1,k1,hA⟩:=ZA hr h;obtain⟨σ,hσ,e1⟩:=hr.st.ev1 x;exact ZSb hr hU (Z3 hσ e1) hd hX h1 (V.ok.mono hU k1) hA
 | load t x =>
  simp only[ZM]at h;obtain⟨V1,h1,k1,hA⟩:=ZA hr h;rw[hT]at hA;simp only at hA;obtain⟨z,y,q1,q2,q3,hB⟩:=ZKn (d:=d) (ty:=ty) (pos:=pos) (aft:=aft) (g:=g) hr h1 k1 hA;exact ZSb hr hU q1 hd hX q2 (V.ok.mono hU q3) hB
 | fieldAddr s x i =>
  simp only[ZM]at h;obtain⟨V1,h1,k1,hA⟩:=ZA hr h;obtain⟨z,y,q1,q2,q3,hB⟩:=Zes (d:=d) (ty:=ty) (pos:=pos) (aft:=aft) (g:=g) hr h1 k1 hA;exact ZSb hr hU q1 hd hX q2 (V.ok.mono hU q3) hB
 | indexAddr t x i =>
  simp only[ZM]at h;obtain⟨V1,h1,k1,hA⟩:=ZA hr h;obtain⟨V2,h2,k2,hB⟩:=ZA hr hA;obtain⟨κ,j,rfl,hC'⟩:=Zdb hB;rw[hA',hQ]at hC';exact Ztt hr hU hX rfl hd h1 k1 (Zza h2).1 hC'
 | nilCheck x =>
  simp only[ZM]at h;obtain⟨V1,h1,k1,hA⟩:=ZA hr h;split at hA
  ·rename_i α y;obtain⟨cs,hcs,e0⟩:=h1;obtain⟨b,o',c,rfl,hat,hrel⟩:=(show (rPtr α.rep).rel v cs y from hcs);obtain⟨σ,hσ,e1⟩:=hr.st.ev1 x;rw[e0]at e1;have e1:ev σ x=some (.pointer (some ⟨b,o',none⟩)):=e1;have hrun:(execOp a.eval ⟨d,.nilCheck x,ty,pos,aft,g⟩).run C.P w = .ok (.value (.pointer (some ⟨b,o',none⟩))) w:=by simp[execOp,hσ.eval e1]
   exact ZSb hr hU hrun hd hX (x:=.vp α y 0) ⟨[_],⟨b,o',c,hat,hrel,rfl⟩,rfl⟩ trivial hA
  obtain⟨hB,b,o',e',_⟩:=ZPh h1 k1 hA;obtain⟨σ,hσ,e1⟩:=hr.st.ev1 x;rw[e']at e1 h1;have hrun:(execOp a.eval ⟨d,.nilCheck x,ty,pos,aft,g⟩).run C.P w = .ok (.value (.pointer (some ⟨b,o',none⟩))) w:=by simp[execOp,hσ.eval e1]
  exact ZSb hr hU hrun hd hX h1 (V.ok.mono hU k1) hB
 | makeFunc fn first cap =>
  cases fn with
  | func fi =>
   simp only[ZM]at h;split at h
   ·rename_i hfirst;obtain⟨c,h1,k1,hA⟩:=Z6e hr h;obtain⟨σ,hσ,hev⟩:=hr.st.evs cap.toList;have hargs:cap.toList.map (ev σ)=(cap.toList.map a.eval).map some:=by
     rw[List.map_map];exact List.map_congr_left λy hy=>hev y hy
    have hf:first = #[]:=by
     apply Array.ext';simpa using hfirst
    subst hf;exact ZSb hr hU (Zpr hσ _ hargs) hd hX (x:=.fn fi c) ⟨[_],⟨_,h1,rfl⟩,rfl⟩ (V.ok.mono hU k1) hA
   ·exact h.elim
  | _=>exact h.elim
 | _=>cases hk
theorem Zkz {C:Cf} {f:Fr} {o:Oper} (h:readK o.op=true):Z1f C f o=none:=by
 obtain⟨d,op,ty,pos,aft,g⟩:=o
 cases op <;> first | rfl | cases h
variable {C:Cf} {ops:Array Oper} {Q:Exit→Act→World→Prop} {cf:CallF}
theorem Zcx {fl:Array Bool} (hF:OkF ops fl) {P:Program} {a:Act} {w:World} {i j:Nat} {o oj:Oper} {d:Nat} {x:Value} (hi:ops[i]? = some o) (hfl:fl.getD i false=true) (hd:o.dst=some d) (hj:ops[j]? = some oj) (hij:j<i) (hp:ZWc P ops oj a w):ZWc P ops oj (a.put (some d) x) w:=by
 have hn:d ∉ oj.looksAt ops:=λhm=>by
  have:=hF.look i o d hi hfl hd j oj hj hm;simp only[ZFb,hj]at this;obtain⟨e,he,hb⟩:=Array.any_eq_true'.1 this;simp only[Bool.and_eq_true,beq_iff_eq]at hb;have:=hF.back j oj hj e he hb.1;omega
 have he:=execOp_put oj (hF.nosel j oj hj) a (some d) x (ops:=ops) (λd' hd'=>by cases hd';exact hn);have hw:=wanted_put (ops:=ops) oj a (some d) x (λd' hd'=>by cases hd';exact hn);obtain⟨dj,hdj,k1,k2⟩:=hp;have hne:d≠dj:=λe=>hF.sole i o d hi hfl hd j oj hj (by omega) (e ▸ hdj);exact⟨dj,hdj,by rw[hw,he,Znd hne];exact k1,by rw[hw,Znd hne];exact k2⟩
theorem ZSm {k i n:Nat} {o:Oper} (hn:n=ops.size) (hi:ops[i]? = some o) (hik:k≤i) (hb:∀ e ∈ o.after,Region.binds .any e=true→e.on<k):i ∈ Region.ready .any ops (flK k n):=by
 subst hn;have hlt:=Zgc hi;refine mem_ready.2 ⟨by rw[Zif hlt];exact dFq (by omega),o,hi,λe he hbb=>?_⟩;have:=hb e he hbb;rw[Zif (by omega)];exact dT this
theorem ZNp (hC:CfOK C) {k:Nat} {fl:Array Bool} (hF:OkF ops fl) (hfl:∀ i,i<k→fl.getD i false=true) (hk:k≤ops.size) (hpre:∀ i o,i<k→ops[i]? = some o→Zyg C o=true) (hds:∀ o ∈ ops.toList,∀ k,o.dst=some k→k<N) {α:Type} {r:α} {K:Fr→Lo→Nat→Option α}:∀ (m i:Nat) {f:Fr} {l:Lo} {n:Nat} {a:Act} {w:World},i+m=k→ZXb C cf ops.toList ((ops.toList.take k).drop i) f l n K=some r→Rel N G w0 v0 (· < n) f l a w →
  (∀ j o,j<i→ops[j]? = some o→ZWc C.P ops o a w)→(∀ f' l' n' a',K f' l' n'=some r→n≤n'→Old n f l f' l'→Rel N G w0 v0 (· < n') f' l' a' w→(∀ j o,j<k→ops[j]? = some o→ZWc C.P ops o a' w)→Rg C.P ops Q fl (flK k ops.size) a' w)→Rg C.P ops Q fl (flK i ops.size) a w
 | 0,i,f,l,n,a,w,hm,h,hr,hp,hQ=>by
  have hik:i=k:=by omega
  subst hik
  have hnil:(ops.toList.take i).drop i=[]:=List.drop_eq_nil_of_le (by simp;omega)
  rw[hnil]at h
  exact hQ f l n a h (Nat.le_refl n) Old.refl hr hp
 | m+1,i,f,l,n,a,w,hm,h,hr,hp,hQ=>by
  have hi:i<k:=by omega
  have hlt:i<ops.size:=by omega
  have ho:ops[i]? = some ops[i]:=by simp[hlt]
  generalize ops[i]=o at ho
  have hl:(ops.toList.take k).drop i=o :: (ops.toList.take k).drop (i+1):=by
   have h1:(ops.toList.take k)[i]? = some o:=by
    rw[List.getElem?_take_of_lt hi,Array.getElem?_toList];exact ho
   obtain⟨h2,h3⟩:=List.getElem?_eq_some_iff.1 h1;rw[List.drop_eq_getElem_cons h2,h3]
  have hpo:=hpre i o hi ho;obtain⟨hg,⟨d,hd⟩,hread,_⟩:=Zan hpo;rw[hl]at h;simp only[ZXb]at h;rw[Zkz hread]at h;simp only at h;obtain⟨γ,v,ℓ,hr⟩:=hr;have h1:=ZQd (Nat.le_refl n) Old.refl hr.nd (Z6c h);have hom:o ∈ ops.toList:=by rw[← Array.getElem?_toList]at ho;exact mG ho
  obtain⟨y,hrun,f',l',⟨q1,q2⟩,q3⟩:=Zrv (X:=(· < n+1)) (hr.mono (λ_ h=>h) λk h=>(show k<n+1 by have:k<n:=h;omega)) (λk h=>(show k<n+1 by have:k<n:=h;omega)) (Nat.lt_succ_self n) hpo (hds o hom) h1;have hdN:d<N:=hds o hom d hd;have hK:d<a.tmps.size:=by rw[hr.st.size];exact hdN
  refine ZLq (E':=flK (i+1) ops.size) hF i ho (hfl i hi) hd hK (ZSm rfl ho (Nat.le_refl i) λe he hb=>hF.back i o ho e he hb) (ZFm hlt).symm (.inl ⟨ZRa hg,hrun⟩) ?_;rw[hd]at q3;refine ZNp hC hF hfl hk hpre hds m (i+1) (by omega) q1 q3 (λj oj hj hoj=>?_) λf2 l2 n2 a2 e1 e2 e3 e4 e5=>hQ f2 l2 n2 a2 e1 (by omega) (q2.trans e3 (by omega)) e4 e5;rcases Nat.lt_or_ge j i with h2 | h2
  ·exact Zcx hF ho (hfl i hi) hd hoj h2 (hp j oj h2 hoj)
  ·have hji:j=i:=by omega
   subst hji;rw[ho]at hoj;cases hoj;have hn:d ∉ o.looksAt ops:=λhm=>by
    have:=hF.look j o d ho (hfl j hi) hd j o ho hm;simp only[ZFb,ho]at this;obtain⟨e,he,hb⟩:=Array.any_eq_true'.1 this;simp only[Bool.and_eq_true,beq_iff_eq]at hb;have:=hF.back j o ho e he hb.1;omega
   have he:=execOp_put o (hF.nosel j o ho) a (some d) y (ops:=ops) (λd' hd'=>by cases hd';exact hn);have hw:=wanted_put (ops:=ops) o a (some d) y (λd' hd'=>by cases hd';exact hn);refine⟨d,hd,λ_=>by rw[he,Z9f hK];exact hrun,λhwf=>?_⟩;rw[hw,ZRa hg]at hwf;cases hwf
theorem ZZr {p:Nat}:∀ {l seen:List Nat},(∀ g ∈ l,ZFb ops p g=true)→Zld ops p seen l=true
 | [],_,_=>rfl
 | g :: l,seen,h=>by
  simp only[Zld,Bool.and_eq_true,Bool.or_eq_true]
  exact⟨.inl (h g (by simp)),ZZr λx hx=>h x (by simp[hx])⟩
theorem Zfs {i n:Nat} (hn:n=ops.size) (hpost:∀ p q,i<p→ops[p]? = some q→ZFb ops p i=true):∀ p ∈ Region.ready .any ops (flK i n),p=i:=by
 subst hn;intro p hp;obtain⟨hun,o,ho,hall⟩:=mem_ready.1 hp;have hlt:=Zgc ho;rw[Zif hlt]at hun;have hge:i≤p:=Nat.not_lt.1 (of_decide_eq_false hun);rcases Nat.lt_or_ge i p with h | h
 ·have:=hpost p o h ho;simp only[ZFb,ho]at this;obtain⟨e,he,hb⟩:=Array.any_eq_true'.1 this;simp only[Bool.and_eq_true,beq_iff_eq]at hb;have:=(ZTi (hall e he hb.1)).2;omega
 ·omega
theorem Z8l (hC:CfOK C) (hcf:Zgd C cf) {k:Nat} {fl:Array Bool} (hF:OkF ops fl) (hfk:fl=flK k ops.size) (hpost:∀ i o,k<i→ops[i]? = some o→o.guard=none∧∀ j,j<i→ZFb ops i j=true) (hds:∀ o ∈ ops.toList,∀ k,o.dst=some k→k<N) {α:Type} {r:α} {K:Fr→Lo→Nat→Option α}:∀ (m i:Nat) {f:Fr} {l:Lo} {n:Nat} {a:Act} {w:World},i+m=ops.size→k<i→ZXb C cf ops.toList (ops.toList.drop i) f l n K=some r→Rel N G w0 v0 (· < n) f l a w →
  Znc N G w0 v0 n f l (λf l n=>K f l n=some r) (Q .normal)→Rg C.P ops Q fl (flK i ops.size) a w
 | 0,i,f,l,n,a,w,hm,hki,h,hr,hQ=>by
  have hnil:ops.toList.drop i=[]:=List.drop_eq_nil_of_le (by simp;omega)
  rw[hnil]at h
  refine Zdh hF (λ_=>hQ f l n a w h (Nat.le_refl n) Old.refl hr) λp hp=>?_
  obtain⟨hun,o,ho,_⟩:=mem_ready.1 hp
  have hlt:=Zgc ho
  rw[Zif hlt]at hun
  have:=of_decide_eq_false hun
  omega
 | m+1,i,f,l,n,a,w,hm,hki,h,hr,hQ=>by
  have hlt:i<ops.size:=by omega
  have ho:ops[i]? = some ops[i]:=by simp[hlt]
  generalize ops[i]=o at ho
  have hl:ops.toList.drop i=o :: ops.toList.drop (i+1):=by
   have h1:ops.toList[i]? = some o:=by rw[Array.getElem?_toList];exact ho
   obtain⟨h2,h3⟩:=List.getElem?_eq_some_iff.1 h1;rw[List.drop_eq_getElem_cons h2,h3]
  obtain⟨hg,hdir⟩:=hpost i o hki ho;have hom:o ∈ ops.toList:=by rw[← Array.getElem?_toList]at ho;exact mG ho
  rw[hl]at h;have hy:Zpb C.P o a w λx w'=>Rg C.P ops Q fl (flK (i+1) ops.size) (a.put o.dst x) w':=by
   simp only[ZXb]at h;split at h
   ·obtain⟨γ,v,ℓ,hr⟩:=hr;have h1:=ZQd (Nat.le_refl n) Old.refl hr.nd (Z6c h);have hgg:=Zqh hC (X:=(· < n+1)) (hr.mono (λ_ h=>h) λk h=>(show k<n+1 by have:k<n:=h;omega)) (λk h=>(show k<n+1 by have:k<n:=h;omega)) (Nat.lt_succ_self n) (Nat.lt_irrefl n) hds (hds o hom) h1;rcases hgg with ⟨_,hgg⟩ | ⟨hw,_⟩
    ·exact ZRf hgg λx w' ⟨f',l',⟨q1,q2⟩,q3⟩=>Z8l hC hcf hF hfk hpost hds m (i+1) (by omega) (by omega) q1 q3 (hQ.step (by omega) q2)
    ·rw[ZRa hg]at hw;cases hw
   ·rename_i g ags hi;unfold inlG at h;rw[hg]at h;simp only at h;obtain⟨γ,v,ℓ,hr⟩:=hr;exact ZRf (Zln hcf hi h hr hr (hds o hom)) λx w' ⟨f',l',n',e1,e2,e3,e4⟩=>Z8l hC hcf hF hfk hpost hds m (i+1) (by omega) (by omega) e1 e4 (hQ.step e2 e3)
  refine Zdh hF (λh0=>?_) λp hp=>?_
  ·have:=ZSm (k:=i) rfl ho (Nat.le_refl i) λe he hb=>hF.back i o ho e he hb;rw[h0]at this;cases this
  ·have hpi:=Zfs rfl (λp q hlt hq=>(hpost p q (by omega) hq).2 i hlt) p hp;subst hpi;refine⟨o,List.range p,[],ho,ZZr λg hg=>hdir g (List.mem_range.1 hg),?_,?_⟩
   ·refine List.all_eq_true.2 λj hj=>?_;by_cases hjp:j<p
    ·have:(List.range p).contains j=true:=by simpa using hjp
     rw[this];simp
    ·have:(flK p ops.size).getD j false=false:=by
      cases hx:(flK p ops.size).getD j false with
      | false=>rfl
      | true=>exact absurd (ZTi hx).2 hjp
     rw[this];simp
   ·rw[iP (ZRa hg),ZFm hlt];exact ZRf hy λx w' hR=>⟨λj hj=>(by cases hj),hR⟩
theorem Zlv {γ:Nat→Gh} {u:Nat} {L:LV} {y y':Value} (h:Zug γ u L y) (h':Zug γ u L y'):y=y':=by
 cases L with
 | box _ _=>exact h.elim
 | own ty t xs fz =>
  obtain⟨ob,cap,h1,rfl⟩:=h;obtain⟨ob',cap',h2,rfl⟩:=h';rw[h1]at h2;cases h2;rfl
 | it _ _=>exact h.elim
 | lst ty t xs c =>
  obtain⟨ob,cap,h1,rfl⟩:=h;obtain⟨ob',cap',h2,rfl⟩:=h';rw[h1]at h2;cases h2;rfl
 | mat ty ty2 t m hv =>
  obtain⟨ob,cap,rows,h1,rfl⟩:=h;obtain⟨ob',cap',rows',h2,rfl⟩:=h';rw[h1]at h2;cases h2;rfl
 | mid ty ty2 t m hv s =>
  obtain⟨ob,cap,rows,h1,rfl⟩:=h;obtain⟨ob',cap',rows',h2,rfl⟩:=h';rw[h1]at h2;cases h2;rfl
 | mp m =>
  cases m with
  | none=>exact (show y=_ from h).trans (show y'=_ from h').symm
  | some m =>
   obtain⟨b,h1,rfl⟩:=h;obtain⟨b',h2,rfl⟩:=h';rw[h1]at h2;cases h2;rfl
open Classical in
theorem stay_ok {fl:Array Bool} (hF:OkF ops fl) {j k:Nat} {q o:Oper} {dk:Nat} {f2:Fr} {l2:Lo} {n2:Nat} {a:Act} {w w':World} {x:Value} (hq:ops[j]? = some q) (hfl:fl.getD j false=true) (hk:ops[k]? = some o) (hjk:k≠j) (hdk:o.dst=some dk) (hst:stay1 C.P q dk f2 l2=true) (hg:q.guard=none) (hp:ZWc C.P ops q a w) (hr:Rel N G w0 v0 (· < n2) f2 l2 (a.put (some dk) x) w'):ZWc C.P ops q (a.put (some dk) x) w':=by
 obtain⟨d,hd,k1,_⟩:=hp;have k1:=k1 (ZRa hg);have hne:dk≠d:=λe=>hF.sole j q d hq hfl hd k o hk hjk (e ▸ hdk);refine⟨d,hd,λ_=>?_,λhwf=>by rw[ZRa hg]at hwf;cases hwf⟩;rw[Znd hne];obtain⟨qd,op,ty,pos,aft,g⟩:=q;have hd:qd=some d:=hd;subst hd;unfold stay1 at hst
 cases op with
 | move y =>
  cases y with
  | tmp s =>
   simp only at hst;have hs:dk≠s:=λe=>by subst e;simp at hst
   have h1:(execOp a.eval ⟨some d,.move (.tmp s),ty,pos,aft,g⟩).run C.P w = .ok (.value (a.eval (.tmp s))) w:=by simp[execOp]
   rw[k1]at h1;have h2:a.tmps.getD d undef=a.eval (.tmp s):=by injection h1 with h1 _;injection h1
   rw[h2];have h3:(a.put (some dk) x).eval (.tmp s)=a.eval (.tmp s):=Znd hs;rw[← h3];simp[execOp]
  | _=>cases hst
 | load t y =>
  cases y with
  | tmp s =>
   simp only[Bool.and_eq_true]at hst;obtain⟨_,hst⟩:=hst;obtain⟨γ,v,ℓ,hr⟩:=hr;split at hst
   ·rename_i z0 k0 st0 u off k3 st3 u2 hz0 hs hd2;split at hst
    ·rename_i kb stb tb c ee hb hu2;rw[hz0]at hst;simp only at hst;split at hst
     ·rename_i u3 hgv;have hu3:=eQ hst;subst hu3;have hptr:=hr.fr s _ hs;have hown:=hr.fr d _ hd2;have hrun2:=ZKn (d:=some d) (ty:=ty) (pos:=pos) (aft:=aft) (g:=g) (t:=t) (x:=.tmp s) (n:=n2) (k:=λz=>.bind (if z = .own u2 then some () else none) λ_=>.done ()) (Post:=λ_ _ _=>True) hr (p:=.ptr u off) hptr (hr.uf s _ hs).1 (by
        unfold ldE;rw[hz0];refine⟨_,hb,?_⟩;simp only;rw[hgv];exact⟨(),iP rfl,trivial⟩)
      obtain⟨z,y,q1,q2,_,q3⟩:=hrun2;obtain⟨_,q3,_⟩:=q3;have hz:z = .own u2:=by
       by_cases e:z = .own u2
       ·exact e
       ·rw[iN e]at q3;cases q3
      subst hz;obtain⟨cs,⟨y1,rfl,_,hy1⟩,e1⟩:=q2;obtain⟨cs2,⟨y2,rfl,_,hy2⟩,e2⟩:=hown;have e1:y=y1:=e1;have e2:(a.put (some dk) x).tmps.getD d undef=y2:=e2;subst e1;have:=Zlv (hy1 _ hu2) (hy2 _ hu2);rw[Znd hne]at e2;rw[e2,← this];exact q1
     ·cases hst
    ·cases hst
   ·cases hst
  | _=>cases hst
 | _=>cases hst
theorem mid_ok (hC:CfOK C) (hcf:Zgd C cf) {α:Type} {r:α} {id k:Nat} {f:Fr} {l:Lo} {n:Nat} {K:Fr→Lo→Nat→Option α} {a:Act} {w:World} (hm:C.P.follows .mixedOrders=true) (hds:∀ o ∈ ops.toList,∀ k,o.dst=some k→k<N) {ks:List Nat} {pv:Nat→Value} (hks:∀ o ∈ ops.toList,∀ k,o.dst=some k→Zja ks k=false) (hpn:Pin ks pv a)
  (h:imid C cf ops.toList k f l n K=some r) (hr:Rel N G w0 v0 (· < n) f l a w) (hQ:Znc N G w0 v0 n f l (λf l n=>K f l n=some r) (Pn ks pv Q .normal)):(Code.region id ops true).wp C.P Q a w:=by
 unfold imid at h;split at h
 ·rename_i o ho;split at h
  ·rename_i hmid;simp only[midOK,Bool.and_eq_true]at hmid;obtain⟨⟨⟨⟨h1,h2⟩,h3⟩,h4⟩,h5⟩:=hmid;have hta:ops.toList.toArray=ops:=by simp
   have hlen:ops.toList.length=ops.size:=by simp
   rw[hta]at h1 h4;rw[hlen]at h1;have hF:=ZCo h1;have ho:ops[k]? = some o:=by rw[← Array.getElem?_toList];exact ho
   have hks':=Zgc ho;have hgo:o.guard=none:=by simpa using h3
   have hom:o ∈ ops.toList:=by rw[← Array.getElem?_toList]at ho;exact mG ho
   have hpre:∀ i q,i<k→ops[i]? = some q→Zyg C q=true:=λi q hi hq=>by
    refine List.all_eq_true.1 h2 q (mG (i:=i) ?_);rw[List.getElem?_take_of_lt hi,Array.getElem?_toList];exact hq
   have hpost:∀ i q,k<i→ops[i]? = some q→q.guard=none∧∀ j,j<i→ZFb ops i j=true:=λi q hi hq=>by
    have:=List.all_eq_true.1 h5 i (List.mem_range.2 (by rw[hlen];exact Zgc hq));rw[Bool.or_eq_true]at this;rcases this with h | h
    ·have:=lB h;omega
    ·rw[show ops.toList[i]? = some q by rw[Array.getElem?_toList];exact hq]at h;simp only[Bool.and_eq_true]at h;refine⟨by simpa using h.1,λj hj=>?_⟩;have:=List.all_eq_true.1 h.2 j (List.mem_range.2 hj)
     rwa [hta]at this
   refine wp_region_any hm (ZPg hks hpn (rg_any (fl:=flK k ops.size) ?_));refine ZNp hC hF (λi hi=>by rw[Zif (by omega)];exact dT hi) (by omega) hpre hds k 0 (by omega) (by rw[List.drop_zero];exact h) hr.draw (λj o hj=>by omega) λf1 l1 n1 a1 e1 e2 e3 e4 e5=>?_;split at e1
   ·rename_i g ags hi;refine Zdh hF (λh0=>?_) λp hp=>?_
    ·have:=ZSm (k:=k) rfl ho (Nat.le_refl k) λe he hb=>hF.back k o ho e he hb;rw[h0]at this;cases this
    ·have hpi:=Zfs rfl (λp q hlt hq=>(hpost p q hlt hq).2 k hlt) p hp;subst hpi;refine⟨o,ancs ops.toList p o,(List.range p).filter λj=>!(ancs ops.toList p o).contains j,ho,h4,?_,?_⟩
     ·refine List.all_eq_true.2 λj hj=>?_;by_cases hjp:j<p
      ·cases hc:(ancs ops.toList p o).contains j with
       | true=>simp
       | false =>
        have:((List.range p).filter λj=>!(ancs ops.toList p o).contains j).contains j=true:=by
         rw[List.contains_iff_mem];exact List.mem_filter.2 ⟨List.mem_range.2 hjp,by rw[hc];rfl⟩
        rw[this];simp
      ·have:(flK p ops.size).getD j false=false:=by
        cases hx:(flK p ops.size).getD j false with
        | false=>rfl
        | true=>exact absurd (ZTi hx).2 hjp
       rw[this];simp
     ·rw[iP (ZRa hgo),ZFm hks'];obtain⟨γ,v,ℓ,hr1⟩:=e4;refine ZRf (Zln hcf hi e1 hr1 hr1 (hds o hom)) λx w' ⟨f',l',n',q1,q2,q3,q4⟩=>?_;split at q1
      ·rename_i hst;unfold stays at hst
       cases hdk:o.dst with
       | none=>rw[hdk]at hst;cases hst
       | some dk =>
        rw[hdk]at hst q4;simp only at hst;refine⟨λj hj oj hoj=>?_,?_⟩
        ·obtain⟨hj1,hj2⟩:=List.mem_filter.1 hj;have hj1:=List.mem_range.1 hj1;have:=List.all_eq_true.1 hst j (List.mem_range.2 hj1);rw[Bool.or_eq_true]at this;rcases this with h | h
         ·rw[h]at hj2;cases hj2
         ·rw[show ops.toList[j]? = some oj by rw[Array.getElem?_toList];exact hoj]at h;simp only at h;obtain⟨hgj,_⟩:=Zan (hpre j oj hj1 hoj);exact stay_ok hF hoj (by rw[Zif (by omega)];exact dT hj1) ho (by omega) hdk h hgj (e5 j oj hj1 hoj) q4
        ·exact Z8l hC hcf hF rfl hpost hds (ops.size-(p+1)) (p+1) (by omega) (by omega) q1 q4 (hQ.step (by omega) (e3.trans q3 e2))
      ·cases q1
   ·cases e1
  ·cases h
 ·cases h
end
end Go.Eng
