/- Lemmas towards the statement: the engine of the walks, the functions' models, laws and walks, part 3. Conditions: as each states. -/
import Derived.Laws.IdiomStrings
import Derived.Test.YtpjddkamahambaaGreatProg
import Derived.Test.YtpjddkamahambaaGreatRcB
set_option linter.all false
set_option maxRecDepth 100000
namespace Go.Eng
theorem ZTj (n:Nat):(ZWa n).length≤bl n:=by
 induction n using Nat.strongRecOn with
 | ind n ih =>
  by_cases h:n=0
  ·subst h;rw [Zqd];simp
  ·rw [Z0e h,List.length_append];have h1:=ih (n / 10) (by omega);have h2:bl (n / 10)+1≤bl n:=by
    rw [Zqk h];exact Nat.add_le_add_right (ZDe (by omega)) 1
   simp only [List.length_cons,List.length_nil];omega
theorem ZXq {n k:Nat} (h:n<10^k):(ZWa n).length≤k:=by
 induction k generalizing n with
 | zero=>simp at h;subst h;rw [Zqd];simp
 | succ k ih =>
  by_cases h0:n=0
  ·subst h0;rw [Zqd];simp
  ·rw [Z0e h0,List.length_append];have:=ih (n:=n / 10) (by rw [Nat.pow_succ] at h;omega);simp only [List.length_cons,List.length_nil];omega
theorem Zis {q:Nat} (hq:q≠0):∀ (k r:Nat),r<10^k→ZWa (q*10^k+r)=ZWa q++(List.replicate (k-(ZWa r).length) 48++ZWa r):=by
 intro k
 induction k with
 | zero=>intro r h;simp at h;subst h;rw [Zqd];simp
 | succ k ih =>
  intro r h;rw [Nat.pow_succ] at h;have hn:q*10^(k+1)+r≠0:=by
   have:0<q*10^(k+1):=Nat.mul_pos (by omega) (Nat.pow_pos (by omega));omega
  have e1:(q*10^(k+1)+r) / 10=q*10^k+r / 10:=by rw [Nat.pow_succ,← Nat.mul_assoc];generalize q*10^k=p;omega
  have e2:(q*10^(k+1)+r)%10=r%10:=by rw [Nat.pow_succ,← Nat.mul_assoc];generalize q*10^k=p;omega
  rw [Z0e hn,e1,e2,ih (r / 10) (by omega)];by_cases h0:r=0
  ·subst h0;simp only [Nat.zero_div,Zqd,List.length_nil,Nat.sub_zero,List.append_nil,List.append_assoc];congr 1;rw [List.replicate_succ'];rfl
  ·rw [Z0e h0,List.length_append];simp only [List.length_cons,List.length_nil,List.append_assoc];rw [show k+1-((ZWa (r / 10)).length+(0+1))=k-(ZWa (r / 10)).length by omega]
theorem ZCe {l:List UInt8} (h:l.length≤140737488355328):ZLc l=some ():=by unfold ZLc;rw [if_pos (by unfold maxLen;omega)]
theorem ZZr {d:Nat} (h:d<10):Zyb ([48,49,50,51,52,53,54,55,56,57]:List UInt8) (d:Int) ((d+1:Nat):Int)=some [UInt8.ofNat (48+d)]:=by
 have:d=0∨d=1∨d=2∨d=3∨d=4∨d=5∨d=6∨d=7∨d=8∨d=9:=by omega
 rcases this with rfl | rfl | rfl | rfl | rfl | rfl | rfl | rfl | rfl | rfl <;> rfl
theorem quo_u32 {p q:Nat} (hq:0<q) (hp:p<4294967296):quo .u32 (p:Int) (q:Int)=some ((p / q:Nat):Int):=by
 unfold quo;rw [if_neg (by omega)];have e:(p:Int).tdiv (q:Int)=((p / q:Nat):Int):=by simp [Int.tdiv_eq_ediv_of_nonneg]
 have h:p / q≤p:=Nat.div_le_self _ _;generalize p / q=r at *;have h5:inR .u32 (r:Int):=(show (0:Int)≤(r:Int)∧(r:Int)≤4294967295 from ⟨by omega,by omega⟩);rw [e,ZUl h5]
theorem beq_nil {l:List UInt8}:(l==([]:List UInt8))=decide (l=[]):=by
 cases l <;> rfl
theorem Zrn {n:Nat}:ZWa n=[]↔n=0:=by
 constructor
 ·intro h;rcases Nat.eq_zero_or_pos n with h0 | h0
  ·exact h0
  ·rw [Z0e (by omega)] at h;simp at h
 ·rintro rfl;exact Zqd
theorem ZKo {a:Nat} (ha:Zjb a):ZHh a=some (ZTb a):=by
 unfold ZHh;rw [Zdb];have hbl:=Zsl ha;refine Zqb (fun s:Nat×List UInt8=>Zjb s.1∧ZWa s.1++s.2=ZWa a) (fun s=>bl s.1) (fun r:List UInt8=>r=ZWa a) ⟨ha,by simp⟩ (Z2a (by simp only;omega)) ?_ ?_
 ·rintro ⟨x,s⟩ ⟨hx,he⟩;simp only at hx he ⊢;rw [ZGl];by_cases h0:x=0
  ·right;subst h0;rw [show decide ((0:Nat)≠0)=false from rfl,ZI];exact ⟨_,rfl,by rw [← he,Zqd];rfl⟩
  ·left;have e1:Ztf x (1000000000:Int)=some (x / 1000000000,((x%1000000000:Nat):Int)):=by
    unfold Ztf;rw [if_pos ⟨by unfold Z1a;unfold Zjb at hx;omega,by omega⟩];rfl
   rw [decide_eq_true h0,ZJ,e1,Zh,Zdb];have hslen:s.length≤4398046511104:=by
    have:=ZTj a;rw [← he,List.length_append] at this;omega
   refine ZFk (s:=(s,((x%1000000000:Nat):Int),(0:Int))) (fun t:List UInt8×Int×Int=>∃ r k m:Nat,t.2.1=(r:Int)∧t.2.2=(k:Int)∧k+m=9∧r<10^m∧r<1000000000∧ZWa (x / 1000000000*10^m+r)++t.1=ZWa a) (fun t=>9-t.2.2.toNat)
    (fun t:List UInt8=>ZWa (x / 1000000000)++t=ZWa a) ⟨x%1000000000,0,9,rfl,rfl,rfl,Nat.mod_lt _ (by decide),Nat.mod_lt _ (by decide),by
     rw [show x / 1000000000*10^9+x%1000000000=x by omega];exact he⟩ (Z2a (by simp)) ?_ ?_
   ·rintro ⟨t,r,k⟩ ⟨r,k,m,rfl,rfl,hk,hr,hr2,hd⟩;simp only at hd ⊢;rw [ZGl];have htl:t.length≤4398046511104:=by
     have:=ZTj a;rw [← hd,List.length_append] at this;omega
    have cond:ifb (decide ((k:Int)<9)) (ifb (decide (x / 1000000000≠0)) (some true) (some (decide ((0:Int)<(r:Int))))) (some false)=some (decide (k<9∧x / 1000000000*10^m+r≠0)):=by
     by_cases h1:k<9
     ·rw [decide_eq_true (by omega),ZJ];by_cases h2:x / 1000000000=0
      ·rw [decide_eq_false (by simp [h2]),ZI,h2];exact congrArg some (decide_eq_decide.2 (by omega))
      ·rw [decide_eq_true h2,ZJ];have:0<x / 1000000000*10^m:=Nat.mul_pos (by omega) (Nat.pow_pos (by omega));rw [decide_eq_true ⟨h1,by omega⟩]
     ·rw [decide_eq_false (by omega),ZI,decide_eq_false (by omega)]
    rw [cond,Zh];by_cases hc:k<9∧x / 1000000000*10^m+r≠0
    ·left;obtain ⟨h1,h2⟩:=hc;obtain ⟨m,rfl⟩:∃ j,m=j+1:=⟨m-1,by omega⟩;have c1:rem .u32 (r:Int) 10=some ((r%10:Nat):Int):=Zaf (q:=10) (by omega);have c2:quo .u32 (r:Int) 10=some ((r / 10:Nat):Int):=quo_u32 (q:=10) (by omega) (by omega);have c3:IntKind.u32.wrap (((r%10:Nat):Int)+1)=((r%10+1:Nat):Int):=by rw [wrap_u32];omega
     have c4:chk .i64 ((k:Int)+1)=some ((k+1:Nat):Int):=by rw [show (k:Int)+1=((k+1:Nat):Int) by omega,Ztb (by omega)]
     rw [decide_eq_true ⟨h1,h2⟩,ZJ,c1,Zh,Zh,c3,ZZr (Nat.mod_lt _ (by omega)),Zh,ZCe (by simp;omega),Zh,c2,Zh,c4,Zh];rw [Nat.pow_succ] at hr;refine ⟨_,rfl,⟨r / 10,k+1,m,rfl,rfl,by omega,by omega,by omega,?_⟩,by simp;omega⟩;simp only;rw [← hd,Z0e h2,List.append_assoc];have e2:(x / 1000000000*10^(m+1)+r) / 10=x / 1000000000*10^m+r / 10:=by rw [Nat.pow_succ,← Nat.mul_assoc];generalize x / 1000000000*10^m=p;omega
     have e3:(x / 1000000000*10^(m+1)+r)%10=r%10:=by rw [Nat.pow_succ,← Nat.mul_assoc];generalize x / 1000000000*10^m=p;omega
     rw [e2,e3]
    ·right;rw [decide_eq_false hc,ZI];refine ⟨_,rfl,?_⟩;rw [← hd];congr 2;by_cases hm:m=0
     ·subst hm;simp at hr;simp [hr]
     ·have h2:x / 1000000000*10^m+r=0:=by
       rcases Nat.eq_zero_or_pos (x / 1000000000*10^m+r) with h | h
       ·exact h
       ·exact absurd ⟨by omega,by omega⟩ hc
      have h3:x / 1000000000*10^m=0:=by omega
      rcases Nat.mul_eq_zero.1 h3 with h | h
      ·rw [h2,h]
      ·exact absurd h (Nat.pos_iff_ne_zero.1 (Nat.pow_pos (by omega)))
   ·rintro t ht;rw [Zh];refine ⟨_,rfl,⟨Z0k (Nat.div_le_self _ _) hx,ht⟩,?_⟩;simp only;have:=Zqk h0;have h3:bl (x / 1000000000)≤bl (x / 2):=ZDe (by omega);omega
 ·rintro r rfl;rw [Zh,beq_nil];unfold ZTb;by_cases h0:a=0
  ·subst h0;rw [decide_eq_true Zqd,ZJ,if_pos rfl]
  ·rw [decide_eq_false (fun h=>h0 (Zrn.1 h)),ZI,if_neg h0]
theorem Zrr {n:Nat} {z:List UInt8} (h:Zeg n=some z):ZHh n=some z:=by
 unfold Zeg at h;split at h
 ·rename_i hh;rw [ZKo hh,h]
 ·cases h
theorem ZLp (r:List (List UInt8)) (j:Nat):((r.drop j).reverse.flatten).length≤r.reverse.flatten.length:=by
 have h:r.reverse.flatten=(r.drop j).reverse.flatten++(r.take j).reverse.flatten:=by
  rw [← List.flatten_append,← List.reverse_append,List.take_append_drop]
 rw [h,List.length_append];omega
theorem Zqn (c:UInt8):∀ k:Nat,(List.replicate k [c]).flatten=List.replicate k c
 | 0=>rfl
 | k+1=>by rw [List.replicate_succ,List.flatten_cons,Zqn c k,List.replicate_succ];rfl
theorem text_eq {a:Nat} (ha:okN a):Zni a=some (ZTb a):=by
 unfold Zni;have hbl:=ZWk ha;have hda:=ZTj a;rw [Zdb];refine Zqb (fun s:Nat×List (List UInt8)=>okN s.1∧ZWa s.1++s.2.reverse.flatten=ZWa a∧bl s.1+s.2.length≤bl a) (fun s=>bl s.1) (fun r:List (List UInt8)=>r.reverse.flatten=ZWa a∧r.length≤bl a∧(a≠0→r≠[])) ⟨ha,by simp,by simp⟩ (Z2a (by simp only;omega)) ?_ ?_
 ·rintro ⟨x,s⟩ ⟨hx,he,hl⟩;simp only at hx he hl ⊢;by_cases h0:x=0
  ·right;subst h0;rw [Zeb,show decide ((0:Int)<(([]:List Int).length:Int))=false from rfl,ZI];rw [Zqd,List.nil_append] at he;refine ⟨_,rfl,he,by omega,fun h1 h2=>?_⟩;subst h2;exact h1 (Zrn.1 he.symm)
  ·left;have hpos:=List.length_pos_iff.2 ((Zzd (n:=x) (B:=18446744073709551616) (by decide)).2 h0);have e1:ZKe x (10000000000000000000:Int)=some (x / 10000000000000000000,((x%10000000000000000000:Nat):Int)):=by
    unfold ZKe;rw [if_pos ⟨hx,by omega⟩];rfl
   have e2:ZRg ((x%10000000000000000000:Nat):Int)=some (ZWa (x%10000000000000000000)):=by unfold ZRg;rw [Int.toNat_natCast]
   rw [decide_eq_true (show (0:Int)<((Zl 18446744073709551616 x).length:Int) by omega),ZJ,e1,Zh];simp only;rw [e2,Zh];have hr:(ZWa (x%10000000000000000000)).length≤19:=ZXq (k:=19) (Nat.mod_lt _ (by decide));have hb2:bl (x / 10000000000000000000)+1≤bl x:=by
    rw [Zqk h0];exact Nat.add_le_add_right (ZDe (by omega)) 1
   have hsplit:∃ p:List UInt8,ifb (decide ((0:Int)<((Zl 18446744073709551616 (x / 10000000000000000000)).length:Int))) (bnd (chk .i64 (19-((ZWa (x%10000000000000000000)).length:Int))) fun y218=>bnd (ZCg [48] y218) fun y220=>bnd (ZLc (y220++ZWa (x%10000000000000000000))) fun y227=>some (y220++ZWa (x%10000000000000000000))) (some (ZWa (x%10000000000000000000)))=some p∧ZWa (x / 10000000000000000000)++p=ZWa x:=by
    by_cases hq:x / 10000000000000000000=0
    ·refine ⟨_,by rw [hq,Zeb];rfl,?_⟩;rw [hq,Zqd,List.nil_append];congr 1;omega
    ·have hpos:=List.length_pos_iff.2 ((Zzd (n:=x / 10000000000000000000) (B:=18446744073709551616) (by decide)).2 hq);obtain ⟨k,hk⟩:∃ k,k=19-(ZWa (x%10000000000000000000)).length:=⟨_,rfl⟩;have e3:chk .i64 (19-((ZWa (x%10000000000000000000)).length:Int))=some (k:Int):=by rw [show (19-((ZWa (x%10000000000000000000)).length:Int))=(k:Int) by omega,Ztb (by omega)]
     have e4:ZCg [48] (k:Int)=some (List.replicate k 48):=by
      unfold ZCg;rw [if_pos ⟨by omega,by simp;omega⟩,Int.toNat_natCast,Zqn]
     refine ⟨List.replicate k 48++ZWa (x%10000000000000000000),?_,?_⟩
     ·rw [decide_eq_true (by omega),ZJ,e3,Zh,e4,Zh,ZCe (by simp;omega),Zh]
     ·have:=Zis hq 19 (x%10000000000000000000) (Nat.mod_lt _ (by decide));rw [show x / 10000000000000000000*10^19+x%10000000000000000000=x by omega] at this;rw [this,hk]
   obtain ⟨p,ep,hp⟩:=hsplit;rw [ep,Zh,ZSe (by simp;omega),Zh];refine ⟨_,rfl,⟨ZBl (Nat.div_le_self _ _) hx,?_,by simp;omega⟩,by simp only;omega⟩;simp only [List.reverse_append,List.reverse_cons,List.reverse_nil,List.nil_append,List.singleton_append,List.flatten_cons];rw [← List.append_assoc,hp,he]
 ·rintro r ⟨hr,hl,hne⟩;rw [Zh];by_cases h0:a=0
  ·subst h0;have:r=[]:=by
    have:=hl;simp [bl] at this;exact this
   subst this;rfl
  ·have hne:=hne h0;have hpos:0<r.length:=List.length_pos_iff.2 hne;have e1:((r.length:Int)==0)=false:=beq_false_of_ne (by omega);rw [e1,ZI,Zma (by omega) (by omega),Zh,Zdb];unfold ZTb;rw [if_neg h0];refine Zqb (fun s:List UInt8×Int=>∃ k:Nat,s.2=(k:Int)-1∧k≤r.length∧s.1=(r.drop k).reverse.flatten) (fun s=>(s.2+1).toNat) (fun t:List UInt8=>t=ZWa a) ⟨r.length,rfl,by omega,by simp⟩ (Z2a (by simp only;omega)) ?_ ?_
   ·rintro ⟨s,i⟩ ⟨k,hi,hk,hs⟩;simp only at hi hs ⊢;subst hi hs;by_cases hk0:k=0
    ·right;subst hk0;rw [show decide ((0:Int)≤((0:Nat):Int)-1)=false from rfl,ZI];exact ⟨_,rfl,by rw [List.drop_zero];exact hr⟩
    ·left;obtain ⟨j,rfl⟩:∃ j,k=j+1:=⟨k-1,by omega⟩;have ej:((j+1:Nat):Int)-1=(j:Int):=by omega
     have hj:j<r.length:=by omega
     have hnew:(r.drop (j+1)).reverse.flatten++r[j]=(r.drop j).reverse.flatten:=by
      rw [List.drop_eq_getElem_cons hj,List.reverse_cons,List.flatten_append];simp
     have hlen:((r.drop j).reverse.flatten).length≤r.reverse.flatten.length:=ZLp r j;rw [hr] at hlen;have e2:Zxi ((r.drop (j+1)).reverse.flatten++r[j])=some ():=by unfold Zxi;rw [if_pos (by rw [hnew];omega)]
     rw [ej,decide_eq_true (show (0:Int)≤(j:Int) by omega),ZJ,Zfa hj,Zh,e2,Zh,Zma (by omega) (by omega),Zh];exact ⟨_,rfl,⟨j,rfl,by omega,hnew⟩,by simp⟩
   ·rintro t rfl;rw [Zh,ZCe (by omega),Zh]
theorem Zwq {n:Nat} {z:List UInt8} (h:Zqg n=some z):Zni n=some z:=by
 unfold Zqg at h;split at h
 ·rename_i hh;rw [text_eq hh,h]
 ·cases h
theorem ZVi {n:Nat} (h:bl n≤4398046511104):(ZTb n).length≤4398046511104:=by
 unfold ZTb;split
 ·simp
 ·have:=ZTj n;omega
theorem Z1o {x:Rat} {z:List UInt8} (h:Zee x=some z):ZCi x=some z:=by
 unfold Zee at h;split at h
 ·rename_i hh;obtain ⟨h1,h2⟩:=hh
  cases h
  unfold ZCi Zqg;have l1:=ZVi (n:=x.num.natAbs) (by omega);have l2:=ZVi (n:=x.den) (by omega);rw [if_pos (ZJb (by omega)),Zh];have e1:ifb (decide (x.num<0)) (bnd (ZLc ([45]++ZTb x.num.natAbs)) fun y80=>some (([45]:List UInt8)++ZTb x.num.natAbs)) (some (ZTb x.num.natAbs))=some ((if x.num<0 then [45] else [])++ZTb x.num.natAbs):=by
   by_cases h:x.num<0
   ·rw [decide_eq_true h,ZJ,ZCe (by simp;omega),Zh,if_pos h]
   ·rw [decide_eq_false h,ZI,if_neg h];rfl
  rw [e1,Zh];unfold txtQ;have l3:((if x.num<0 then [45] else [])++ZTb x.num.natAbs:List UInt8).length≤4398046511105:=by
   rw [List.length_append];split <;> simp <;> omega
  generalize ((if x.num<0 then [45] else [])++ZTb x.num.natAbs:List UInt8)=s at *;by_cases hd:x.den=1
  ·rw [hd];rw [show Zzb 1=0 from rfl,Zeb];simp [ifb,bnd]
  ·have e2:Zzb x.den=x.den:=by unfold Zzb;rw [if_neg hd]
   have hpos:=List.length_pos_iff.2 ((Zzd (n:=x.den) (B:=18446744073709551616) (by decide)).2 x.den_nz);rw [e2,decide_eq_true (by omega),ZJ,if_pos (ZJb (by omega)),Zh,ZCe (by simp;omega),Zh,ZCe (by simp;omega),Zh,Zh,if_neg hd];rfl
 ·cases h
theorem num_pos {q:Rat}:0<q.num↔0<q:=by
 have h1:=Rat.num_nonneg (q:=q);have h2:=Rat.num_eq_zero (q:=q);constructor
 ·intro h;have h3:0≤q:=h1.1 (by omega);have h4:q≠0:=fun e=>by have:=h2.2 e;omega
  grind
 ·intro h;have h3:0≤q.num:=h1.2 (by grind);have h4:q.num≠0:=fun e=>by have:=h2.1 e;grind
  omega
theorem num_neg {q:Rat}:q.num<0↔q<0:=by
 have h1:=Rat.num_nonneg (q:=q);constructor
 ·intro h;rcases Rat.le_total (a:=0) (b:=q) with h3 | h3
  ·have:=h1.2 h3;omega
  ·have h4:q≠0:=fun e=>by subst e;simp at h
   grind
 ·intro h;rcases Int.lt_or_le q.num 0 with h3 | h3
  ·exact h3
  ·have:=h1.1 h3;grind
theorem Zoq {q:Rat}:(0<q.num.sign)↔0<q:=by
 rw [← num_pos];rcases Int.lt_trichotomy q.num 0 with h | h | h
 ·rw [Int.sign_eq_neg_one_of_neg h];omega
 ·rw [h];simp
 ·rw [Int.sign_eq_one_of_pos h];omega
theorem Zjn {q:Rat}:(q.num.sign<0)↔q<0:=by
 rw [← num_neg];rcases Int.lt_trichotomy q.num 0 with h | h | h
 ·rw [Int.sign_eq_neg_one_of_neg h];omega
 ·rw [h];simp
 ·rw [Int.sign_eq_one_of_pos h];omega
theorem ZEr {q:Rat}:(q.num.sign≤0)↔q≤0:=by
 have h:=Zoq (q:=q);constructor
 ·intro h1;rcases Rat.le_total (a:=q) (b:=0) with h2 | h2
  ·exact h2
  ·by_cases h3:q=0
   ·grind
   ·have:=h.2 (by grind);omega
 ·intro h1;rcases Int.lt_or_le 0 q.num.sign with h2 | h2
  ·have:=h.1 h2;grind
  ·exact h2
theorem ZWr {q:Rat}:(0≤q.num.sign)↔0≤q:=by
 have h:=Zjn (q:=q);constructor
 ·intro h1;rcases Rat.le_total (a:=0) (b:=q) with h2 | h2
  ·exact h2
  ·by_cases h3:q=0
   ·grind
   ·have:=h.2 (by grind);omega
 ·intro h1;rcases Int.lt_or_le q.num.sign 0 with h2 | h2
  ·have:=h.1 h2;grind
  ·exact h2
def sz (k:Nat) (x:Rat):Prop:=bl x.num.natAbs≤k∧bl x.den≤k
theorem sz.mono {k m:Nat} {x:Rat} (h:sz k x) (hk:k≤m):sz m x:=⟨by have:=h.1;omega,by have:=h.2;omega⟩
theorem sz.ok {k:Nat} {x:Rat} (h:sz k x) (hk:k≤1099511627776):okQ x:=⟨by have:=h.1;omega,by have:=h.2;omega⟩
theorem sz.sm {k:Nat} {x:Rat} (h:sz k x) (hk:k≤68719476736):smQ x:=⟨by have:=h.1;omega,by have:=h.2;omega⟩
theorem Z4j {k m:Nat} {x y:Rat} (h:sz k x) (h':sz m y):sz (k+m+1) (x+y):=by
 have:=ZWp x y;obtain ⟨a,b⟩:=h;obtain ⟨c,d⟩:=h';exact ⟨by omega,by omega⟩
theorem Zjk {k m:Nat} {x y:Rat} (h:sz k x) (h':sz m y):sz (k+m) (x*y):=by
 have:=Zos x y;obtain ⟨a,b⟩:=h;obtain ⟨c,d⟩:=h';exact ⟨by omega,by omega⟩
theorem Zmh {k m:Nat} {x y:Rat} (h:sz k x) (h':sz m y):sz (k+m+1) (x / y):=by
 have:=Zxq (x:=x) (y:=y);obtain ⟨a,b⟩:=h;obtain ⟨c,d⟩:=h';exact ⟨by omega,by omega⟩
theorem Z1n {n:Int} (h:-9223372036854775808≤n∧n≤9223372036854775807):sz 64 (n:Rat):=by
 have h2:=Zfs n;have h3:bl n.natAbs≤64:=ZTc (show n.natAbs<2^64 by omega);exact ⟨by omega,by omega⟩
def i64 (r:Int×Int):Prop:=(-9223372036854775808≤r.1∧r.1≤9223372036854775807)∧(-9223372036854775808≤r.2∧r.2≤9223372036854775807)
theorem ZMk {r:Int×Int} (h:i64 r):sz 64 (ZVc r):=by
 unfold ZVc;by_cases h0:r.2=0
 ·rw [if_pos h0];exact Z1n h.1
 ·rw [if_neg h0,ZWi];obtain ⟨⟨a,b⟩,c,d⟩:=h;rcases ZDk (if r.2<0 then -r.1 else r.1) r.2.natAbs with ⟨h1,h2⟩ | h1
  ·have h3:bl (if r.2<0 then -r.1 else r.1).natAbs≤64:=ZTc (show _<2^64 by split <;> omega);have h4:bl r.2.natAbs≤64:=ZTc (show _<2^64 by omega);exact ⟨by omega,by omega⟩
  ·omega
theorem ZXi {k m:Nat} {x y:Rat} (h:sz k x) (h':sz m y) (hk:k+m≤1000000000):ZRc x y=some (x+y):=by unfold ZRc;rw [if_pos ⟨h.ok (by omega),h'.ok (by omega)⟩]
theorem Zhl {k m:Nat} {x y:Rat} (h:sz k x) (h':sz m y) (hk:k+m≤1000000000):ZJd x y=some (x*y):=by unfold ZJd;rw [if_pos ⟨h.ok (by omega),h'.ok (by omega)⟩]
theorem qcmp_ok {k m:Nat} {x y:Rat} (h:sz k x) (h':sz m y) (hk:k+m≤1000000000):Zbe x y=some (x-y).num.sign:=by unfold Zbe;rw [if_pos ⟨h.ok (by omega),h'.ok (by omega)⟩]
def decG:Nat→Nat→List UInt8
 | 0,_=>[]
 | k+1,n=>if n=0 then [] else decG k (n / 10)++[UInt8.ofNat (48+n%10)]
theorem Zbl:∀ (k n:Nat),n≤k→decG k n=ZWa n
 | 0,n,h=>by
  have:n=0:=by omega
  subst this;rw [Zqd];rfl
 | k+1,n,h=>by
  by_cases h0:n=0
  ·subst h0;rw [Zqd];rfl
  ·rw [Z0e h0,decG,if_neg h0,Zbl k (n / 10) (by omega)]
def txtG (x:Rat):List UInt8:=(if x.num<0 then [45] else [])++(if x.num.natAbs=0 then [48] else decG x.num.natAbs x.num.natAbs)++(if x.den=1 then [] else 47 :: (if x.den=0 then [48] else decG x.den x.den))
theorem txtG_eq:txtG=txtQ:=by
 funext x
 unfold txtG txtQ ZTb;rw [Zbl _ _ (Nat.le_refl _),Zbl _ _ (Nat.le_refl _)]
def Z9m (x:Rat):Option (List UInt8):=if okQ x then some (txtG x) else none
theorem ZFp:Zee=Z9m:=by
 funext x
 unfold Zee Z9m;rw [txtG_eq]
theorem ZAa {α β:Type} {x:Option α} {y:α} {f:α→Option β} {z:Option β} (h:x=some y) (h2:f y=z):bnd x f=z:=by subst h;rw [Zh];exact h2
theorem Zpc {S R:Type} {body:S→Option (S ⊕ R)} {s:S} {r:R} (st:Nat→S) (n:Nat) (h0:st 0=s) (hn:n<2^64) (h:∀ k,k<n→body (st k)=some (.inl (st (k+1)))) (he:body (st n)=some (.inr r)):Z0 body Z9 s=some r:=by
 have key:∀ m f k,k+m=n→m<f→Z0 body f (st k)=some r:=by
  intro m
  induction m with
  | zero =>
   intro f k hk hf;obtain ⟨f,rfl⟩:∃ g,f=g+1:=⟨f-1,by omega⟩;obtain rfl:k=n:=by omega
   unfold Z0;rw [he,Zh]
  | succ m ih =>
   intro f k hk hf;obtain ⟨f,rfl⟩:∃ g,f=g+1:=⟨f-1,by omega⟩;unfold Z0;rw [h k (by omega),Zh];exact ih f (k+1) (by omega) (by omega)
 rw [← h0];exact key n Z9 0 (by omega) (Z2a (by omega))
noncomputable def ZDh (x:Rat):Option (Rat) :=
 bnd (ZUc x) fun a =>
 bnd (Ztc (!(decide (x.num<0))) x.num.natAbs a) fun b =>
 some b
noncomputable def Zlh (x:Rat) (y:Rat):Option (Rat) :=
 bnd (ZUc x) fun a =>
 bnd (ZUc y) fun b =>
 bnd (Zpb x.num.natAbs b) fun c =>
 bnd (Zpb y.num.natAbs a) fun d =>
 ifb ((decide (x.num<0))==(decide (y.num<0)))
 (bnd (ZSg c d) fun e =>
 bnd (Zpb a b) fun f =>
 bnd (Ztc (decide (x.num<0)) e f) fun g =>
 some g)
 (bnd (ZQd c d) fun h =>
 ifb (decide ((0:Int)≤h))
 (bnd (ZZc c d) fun i =>
 bnd (Zpb a b) fun j =>
 bnd (Ztc (decide (x.num<0)) i j) fun k =>
 some k)
 (bnd (ZZc d c) fun l =>
 bnd (Zpb a b) fun m =>
 bnd (Ztc (decide (y.num<0)) l m) fun n =>
 some n))
noncomputable def Zxj (x:Rat) (y:Rat):Option (Rat) :=
 bnd (ZSh y) fun a =>
 bnd (ZDd x a) fun b =>
 some b
noncomputable def Zrj (x:Rat) (y:Rat):Option (Rat) :=
 bnd (Zpb x.num.natAbs y.num.natAbs) fun a =>
 bnd (ZUc x) fun b =>
 bnd (ZUc y) fun c =>
 bnd (Zpb b c) fun d =>
 bnd (Ztc ((decide (x.num<0)) != (decide (y.num<0))) a d) fun e =>
 some e
noncomputable def Z2i (x:Rat) (y:Rat):Option (Rat×Int) :=
 bnd (ZFd y) fun a =>
 ifb (a)
 (bnd (Zzc (0:Int)) fun b =>
 some ((b,(3:Int))))
 (bnd (ZUc y) fun c =>
 bnd (Zpb x.num.natAbs c) fun d =>
 bnd (ZUc x) fun e =>
 bnd (Zpb e y.num.natAbs) fun f =>
 bnd (Ztc ((decide (x.num<0)) != (decide (y.num<0))) d f) fun g =>
 some ((g,(0:Int))))
noncomputable def Z7j (x:Rat) (y:Rat):Option (Rat) :=
 bnd (Zih x y) fun a =>
 some a.1
noncomputable def ZBj (x:Rat) (y:Rat):Option (Int) :=
 bnd (Zdh x y) fun a =>
 bnd (ZMe a) fun b =>
 some b
noncomputable def Zak (x:Rat):Option ((List UInt8)) :=
 bnd (Zeg x.num.natAbs) fun b =>
 bnd (ifb (decide (x.num<0))
 (bnd (ZFd x) fun d =>
 some (!(d)))
 (some false))
 (fun (e:Bool) =>
 (bnd (ifb (e)
 (bnd (ZLc ((([45]:List UInt8))++b)) fun j =>
 some (((([45]:List UInt8))++b)))
 (some b))
 (fun (a:(List UInt8)) =>
 (bnd (ZUc x) fun f =>
 bnd (Zed ([(1:Int)])) fun g =>
 bnd (ZQd f g) fun h =>
 bnd (ifb (decide ((0:Int)<h))
 (bnd (ZLc (a++(([47]:List UInt8)))) fun k =>
 bnd (Zeg x.den) fun c =>
 bnd (ZLc (((a++(([47]:List UInt8))))++c)) fun l =>
 some ((((a++(([47]:List UInt8))))++c)))
 (some a))
 (fun (i:(List UInt8)) =>
 (some i))))))
theorem ZWd {n:Nat} (h:bl n≤1099511627776):Zjb n:=ZFn (by omega)
theorem Zwc {n:Nat} (h:bl n≤1099511627776):Z1a n:=by have:=ZWd h;unfold Zjb at this;unfold Z1a;omega
theorem rneg_eq {x:Rat} (h:okQ x):ZDh x=some (-x):=by
 obtain ⟨h1,h2⟩:=h;unfold ZDh ZUc Ztc;rw [Zh,if_pos ⟨ZWd h1,ZWd h2,x.den_nz⟩,Zh];congr 1;have e:sgn (!(decide (x.num<0))) x.num.natAbs = -x.num:=by
  unfold sgn;by_cases h:x.num<0
  ·simp [h];omega
  ·simp [h];omega
 rw [e];exact Rat.mkRat_self (-x)
theorem Zop {x z:Rat} (h:ZSh x=some z):ZDh x=some z:=by
 unfold ZSh at h;split at h
 ·rename_i hh;rw [rneg_eq hh,h]
 ·cases h
theorem radd_eq {x y:Rat} (h:smQ x) (h':smQ y):Zlh x y=some (x+y):=by
 obtain ⟨a1,a2⟩:=h;obtain ⟨b1,b2⟩:=h';unfold Zlh ZUc;have p1:=Zdc x.num.natAbs y.den;have p2:=Zdc y.num.natAbs x.den;have p3:=Zdc x.den y.den;have p4:=ZPl (x.num.natAbs*y.den) (y.num.natAbs*x.den);have hd:x.den*y.den≠0:=Nat.mul_ne_zero x.den_nz y.den_nz;have e1:Zpb x.num.natAbs y.den=some (x.num.natAbs*y.den):=by unfold Zpb;rw [if_pos ⟨Zwc (by omega),Zwc (by omega)⟩]
 have e2:Zpb y.num.natAbs x.den=some (y.num.natAbs*x.den):=by unfold Zpb;rw [if_pos ⟨Zwc (by omega),Zwc (by omega)⟩]
 have e3:Zpb x.den y.den=some (x.den*y.den):=by unfold Zpb;rw [if_pos ⟨Zwc (by omega),Zwc (by omega)⟩]
 have eN:((x.num.natAbs*y.den:Nat):Int)=(x.num.natAbs:Int)*y.den:=by simp
 have eM:((y.num.natAbs*x.den:Nat):Int)=(y.num.natAbs:Int)*x.den:=by simp
 have key:∀ (s:Bool) (n:Nat),bl n≤1099511627776→sgn s n=x.num*y.den+y.num*x.den→Ztc s n (x.den*y.den)=some (x+y):=by
  intro s n hn he;unfold Ztc;rw [if_pos ⟨ZWd hn,ZWd (by omega),hd⟩,he,← Rat.add_def']
 rw [Zh,Zh,e1,Zh,e2,Zh,e3];obtain ⟨N,hN⟩:∃ N,N=x.num.natAbs*y.den:=⟨_,rfl⟩;obtain ⟨M,hM⟩:∃ M,M=y.num.natAbs*x.den:=⟨_,rfl⟩;rw [← hN] at p1 p4 eN ⊢;rw [← hM] at p2 p4 eM ⊢;have sx:x.num*(y.den:Int)=if x.num<0 then -(N:Int) else N:=by
  split
  ·rw [eN,← Int.neg_mul];congr 1;omega
  ·rw [eN];congr 1;omega
 have sy:y.num*(x.den:Int)=if y.num<0 then -(M:Int) else M:=by
  split
  ·rw [eM,← Int.neg_mul];congr 1;omega
  ·rw [eM];congr 1;omega
 by_cases hs:(x.num<0)↔(y.num<0)
 ·have e4:ZSg N M=some (N+M):=by unfold ZSg;rw [if_pos ⟨Zwc (by omega),Zwc (by omega)⟩]
  have e5:((decide (x.num<0))==(decide (y.num<0)))=true:=by
   by_cases h:x.num<0
   ·simp [h,hs.1 h]
   ·have h2:¬ y.num<0:=fun k=>h (hs.2 k);simp [h,h2]
  rw [e5,ZJ,e4,Zh,Zh,key _ _ (by omega) ?_,Zh];rw [sx,sy];unfold sgn;by_cases h:x.num<0
  ·have h2:=hs.1 h;simp [h,h2];omega
  ·have h2:¬ y.num<0:=fun k=>h (hs.2 k);simp [h,h2]
 ·have e5:((decide (x.num<0))==(decide (y.num<0)))=false:=by
   apply beq_false_of_ne;intro h;exact hs (by by_cases k:x.num<0 <;> by_cases k2:y.num<0 <;> simp_all)
  rw [e5,ZI];unfold ZQd;rw [Zh];by_cases hle:M≤N
  ·have e6:decide ((0:Int)≤Zob N M)=true:=by
    unfold Zob;rw [if_neg (by omega)];split <;> rfl
   have e4:ZZc N M=some (N-M):=by unfold ZZc;rw [if_pos ⟨Zwc (by omega),hle⟩]
   have hb:bl (N-M)≤bl N:=ZDe (by omega);rw [e6,ZJ,e4,Zh,Zh,key _ _ (by omega) ?_,Zh];rw [sx,sy];unfold sgn;by_cases h:x.num<0
   ·have h2:¬ y.num<0:=fun k=>hs ⟨fun _=>k,fun _=>h⟩;simp [h,h2];omega
   ·have h2:y.num<0:=by
     rcases Int.lt_or_le y.num 0 with k | k
     ·exact k
     ·exact absurd ⟨fun q=>absurd q h,fun q=>absurd q (by omega)⟩ hs
    simp [h,h2];omega
  ·have e6:decide ((0:Int)≤Zob N M)=false:=by
    unfold Zob;rw [if_pos (by omega)];rfl
   have e4:ZZc M N=some (M-N):=by unfold ZZc;rw [if_pos ⟨Zwc (by omega),by omega⟩]
   have hb:bl (M-N)≤bl M:=ZDe (by omega);rw [e6,ZI,e4,Zh,Zh,key _ _ (by omega) ?_,Zh];rw [sx,sy];unfold sgn;by_cases h:x.num<0
   ·have h2:¬ y.num<0:=fun k=>hs ⟨fun _=>k,fun _=>h⟩;simp [h,h2];omega
   ·have h2:y.num<0:=by
     rcases Int.lt_or_le y.num 0 with k | k
     ·exact k
     ·exact absurd ⟨fun q=>absurd q h,fun q=>absurd q (by omega)⟩ hs
    simp [h,h2];omega
theorem ZFr {x y z:Rat} (h:ZDd x y=some z):Zlh x y=some z:=by
 unfold ZDd at h;split at h
 ·rename_i hh;rw [radd_eq hh.1 hh.2,h]
 ·cases h
theorem smQ_neg {x:Rat} (h:smQ x):smQ (-x):=by
 unfold smQ at *;have:=Zlq x;rw [this.1,this.2];exact h
theorem smQ_ok {x:Rat} (h:smQ x):okQ x:=by unfold smQ at h;unfold okQ;omega
theorem ZZq {x y z:Rat} (h:Zdh x y=some z):Zxj x y=some z:=by
 unfold Zdh at h;split at h
 ·rename_i hh;unfold Zxj ZSh ZDd;rw [if_pos (smQ_ok hh.2),Zh,if_pos ⟨hh.1,smQ_neg hh.2⟩,Zh,← Rat.sub_eq_add_neg];exact h
 ·cases h
theorem Z6p {x y z:Rat} (h:Z6e x y=some z):Zrj x y=some z:=by
 unfold Z6e at h;split at h
 ·rename_i hh;obtain ⟨⟨a1,a2⟩,b1,b2⟩:=hh
  cases h
  unfold Zrj ZUc;have p1:=Zdc x.num.natAbs y.num.natAbs;have p3:=Zdc x.den y.den;have e1:Zpb x.num.natAbs y.num.natAbs=some (x.num.natAbs*y.num.natAbs):=by unfold Zpb;rw [if_pos ⟨Zwc (by omega),Zwc (by omega)⟩]
  have e3:Zpb x.den y.den=some (x.den*y.den):=by unfold Zpb;rw [if_pos ⟨Zwc (by omega),Zwc (by omega)⟩]
  rw [e1,Zh,Zh,Zh,e3,Zh];unfold Ztc;rw [if_pos ⟨ZWd (by omega),ZWd (by omega),Nat.mul_ne_zero x.den_nz y.den_nz⟩,Zh];have e:sgn ((decide (x.num<0)) != (decide (y.num<0))) (x.num.natAbs*y.num.natAbs)=x.num*y.num:=by
   have eN:((x.num.natAbs*y.num.natAbs:Nat):Int)=(x.num.natAbs:Int)*y.num.natAbs:=by simp
   unfold sgn;rw [eN];by_cases h:x.num<0
   ·have hx:(x.num.natAbs:Int) = -x.num:=by omega
    by_cases h2:y.num<0
    ·have hy:(y.num.natAbs:Int) = -y.num:=by omega
     simp [h,h2,hx,hy,Int.neg_mul,Int.mul_neg]
    ·have hy:(y.num.natAbs:Int)=y.num:=by omega
     simp [h,h2,hx,hy,Int.neg_mul,Int.mul_neg]
   ·have hx:(x.num.natAbs:Int)=x.num:=by omega
    by_cases h2:y.num<0
    ·have hy:(y.num.natAbs:Int) = -y.num:=by omega
     simp [h,h2,hx,hy,Int.neg_mul,Int.mul_neg]
    ·have hy:(y.num.natAbs:Int)=y.num:=by omega
     simp [h,h2,hx,hy,Int.neg_mul,Int.mul_neg]
  rw [e,← Rat.mul_def']
 ·cases h
theorem Zxs {x y:Rat} {z:Rat×Int} (h:Zih x y=some z):Z2i x y=some z:=by
 unfold Zih at h;split at h
 ·rename_i hh;obtain ⟨⟨a1,a2⟩,b1,b2⟩:=hh
  cases h
  unfold Z2i ZFd;rw [Zh];by_cases h0:y=0
  ·subst h0;rfl
  ·rw [decide_eq_false h0,ZI,if_neg h0];unfold ZUc;have hn:=Zpj h0;have p1:=Zdc x.num.natAbs y.den;have p3:=Zdc x.den y.num.natAbs;have e1:Zpb x.num.natAbs y.den=some (x.num.natAbs*y.den):=by unfold Zpb;rw [if_pos ⟨Zwc (by omega),Zwc (by omega)⟩]
   have e3:Zpb x.den y.num.natAbs=some (x.den*y.num.natAbs):=by unfold Zpb;rw [if_pos ⟨Zwc (by omega),Zwc (by omega)⟩]
   rw [Zh,e1,Zh,Zh,e3,Zh];unfold Ztc;rw [if_pos ⟨ZWd (by omega),ZWd (by omega),Nat.mul_ne_zero x.den_nz (by omega)⟩,Zh];have e:sgn ((decide (x.num<0)) != (decide (y.num<0))) (x.num.natAbs*y.den)=if y.num<0 then -(x.num*(y.den:Int)) else x.num*(y.den:Int):=by
    have eN:((x.num.natAbs*y.den:Nat):Int)=(x.num.natAbs:Int)*y.den:=by simp
    unfold sgn;rw [eN];by_cases h:x.num<0
    ·have hx:(x.num.natAbs:Int) = -x.num:=by omega
     by_cases h2:y.num<0 <;> simp [h,h2,hx,Int.neg_mul]
    ·have hx:(x.num.natAbs:Int)=x.num:=by omega
     by_cases h2:y.num<0 <;> simp [h,h2,hx,Int.neg_mul]
   rw [e,← ZTk h0]
 ·cases h
theorem rbyF_eq {x y z:Rat} (h:ZWe x y=some z):Z7j x y=some z:=by
 unfold ZWe at h;split at h
 ·rename_i hh
  cases h
  unfold Z7j Zih;rw [if_pos hh,Zh];split <;> rfl
 ·cases h
theorem ZSo {x y:Rat} {z:Int} (h:Zcg x y=some z):ZBj x y=some z:=by
 unfold Zcg at h;split at h
 ·rename_i hh
  cases h
  unfold ZBj Zdh ZMe;rw [if_pos hh,Zh,Zh]
 ·cases h
theorem Zmp {x:Rat} {z:List UInt8} (h:Zoh x=some z):Zak x=some z:=by
 unfold Zoh at h;split at h
 ·rename_i hh;obtain ⟨h1,h2⟩:=hh
  cases h
  unfold Zak Zeg;have l1:=ZVi (n:=x.num.natAbs) (by omega);have l2:=ZVi (n:=x.den) (by omega);rw [if_pos (ZWd h1),Zh];have e0:ifb (decide (x.num<0)) (bnd (ZFd x) fun y136=>some (!(y136))) (some false)=some (decide (x.num<0)):=by
   unfold ZFd;by_cases h:x.num<0
   ·have:x≠0:=fun e=>by subst e;simp at h
    rw [decide_eq_true h,ZJ,Zh,decide_eq_false this];rfl
   ·rw [decide_eq_false h,ZI]
  rw [e0,Zh];have e1:ifb (decide (x.num<0)) (bnd (ZLc ([45]++ZTb x.num.natAbs)) fun y80=>some (([45]:List UInt8)++ZTb x.num.natAbs)) (some (ZTb x.num.natAbs))=some ((if x.num<0 then [45] else [])++ZTb x.num.natAbs):=by
   by_cases h:x.num<0
   ·rw [decide_eq_true h,ZJ,ZCe (by simp;omega),Zh,if_pos h]
   ·rw [decide_eq_false h,ZI,if_neg h];rfl
  rw [e1,Zh];unfold txtQ ZUc ZQd;have l3:((if x.num<0 then [45] else [])++ZTb x.num.natAbs:List UInt8).length≤4398046511105:=by
   rw [List.length_append];split <;> simp <;> omega
  generalize ((if x.num<0 then [45] else [])++ZTb x.num.natAbs:List UInt8)=s at *;rw [Zh,ZZk,Zh,Zh,ZFm];by_cases hd:x.den=1
  ·rw [hd];simp [ifb,bnd]
  ·have:=x.den_nz;rw [decide_eq_true (by omega),ZJ,ZCe (by simp;omega),Zh,if_pos (ZWd h2),Zh,ZCe (by simp;omega),Zh,Zh,if_neg hd];simp
 ·cases h
noncomputable def ZOe (x:Rat) (y:Rat):Option (Bool) :=
 bnd (Zee x) fun a =>
 bnd (Zoh y) fun b =>
 some (a==b)
set_option maxRecDepth 100000
theorem ZEb {α:Type} {l:List α} {i:Nat} {d:α} (h:i<l.length):l.getD i d=l[i]:=by rw [List.getD_eq_getElem?_getD,List.getElem?_eq_getElem h];rfl
theorem ZLj {k m:Nat} {x y:Rat} (h:sz k x) (h':sz m y) (hk:k+m≤1000000000):ZDd x y=some (x+y):=by unfold ZDd;rw [if_pos ⟨h.sm (by omega),h'.sm (by omega)⟩]
theorem Zol {k m:Nat} {x y:Rat} (h:sz k x) (h':sz m y) (hk:k+m≤1000000000):Z6e x y=some (x*y):=by unfold Z6e;rw [if_pos ⟨h.sm (by omega),h'.sm (by omega)⟩]
theorem rby_ok {k m:Nat} {x y:Rat} (h:sz k x) (h':sz m y) (hk:k+m≤1000000000) (hy:y≠0):ZWe x y=some (x / y):=by unfold ZWe;rw [if_pos ⟨h.sm (by omega),h'.sm (by omega)⟩,if_neg hy]
theorem rcmp_ok {k m:Nat} {x y:Rat} (h:sz k x) (h':sz m y) (hk:k+m≤1000000000):Zcg x y=some (x-y).num.sign:=by unfold Zcg;rw [if_pos ⟨h.sm (by omega),h'.sm (by omega)⟩]
theorem Zfh {k:Nat} {x:Rat} (h:sz k x) (hk:k≤1000000000):ZOe x x=some true:=by
 unfold ZOe Zee Zoh;rw [if_pos (h.ok (by omega)),Zh,Zh];simp
def Zfc {E S R:Type} (f:E→S→R ⊕ S) (fin:S→R):List E→S→R
 | [],s=>fin s
 | e :: l,s=>match f e s with
  | .inl r=>r
  | .inr s'=>Zfc f fin l s'
theorem ZDp {E S R σ:Type} {body:σ→Option (σ ⊕ R)} (l:List E) (enc:S→Nat→σ) (f:E→S→R ⊕ S) (fin:S→R) (I:Nat→S→Prop) {s0:S} {s:σ} (hs:enc s0 0=s) (h0:I 0 s0) (hlen:l.length<2^64)
  (h1:∀ i s r,(hi:i<l.length)→I i s→f l[i] s = .inl r→body (enc s i)=some (.inr r)) (h2:∀ i s s',(hi:i<l.length)→I i s→f l[i] s = .inr s'→body (enc s i)=some (.inl (enc s' (i+1)))∧I (i+1) s')
  (he:∀ s,I l.length s→body (enc s l.length)=some (.inr (fin s))):Z0 body Z9 s=some (Zfc f fin l s0):=by
 have key:∀ m F i s,i+m=l.length→m<F→I i s→Z0 body F (enc s i)=some (Zfc f fin (l.drop i) s):=by
  intro m
  induction m with
  | zero =>
   intro F i s hi hF hI;obtain ⟨F,rfl⟩:∃ g,F=g+1:=⟨F-1,by omega⟩;obtain rfl:i=l.length:=by omega
   unfold Z0;rw [he s hI,Zh,List.drop_length];rfl
  | succ m ih =>
   intro F i s hi hF hI;obtain ⟨F,rfl⟩:∃ g,F=g+1:=⟨F-1,by omega⟩;have hi':i<l.length:=by omega
   unfold Z0;rw [List.drop_eq_getElem_cons hi'];unfold Zfc
   cases hf:f l[i] s with
   | inl r=>rw [h1 i s r hi' hI hf,Zh]
   | inr s' =>
    have:=h2 i s s' hi' hI hf;rw [this.1,Zh];exact ih F (i+1) s' (by omega) (by omega) this.2
 rw [← hs];exact key l.length Z9 0 s0 (by omega) (Z2a (by omega)) h0
theorem ZIl {E S R σ:Type} {body:σ→Option (σ ⊕ R)} (l:List E) (enc:S→Nat→σ) (f:E→S→R ⊕ S) (fin:S→R) (I:Nat→S→Prop) {s0:S} {s:σ} (hs:enc s0 0=s) (h0:I 0 s0) (hlen:l.length<2^64)
  (h1:∀ i s,(hi:i<l.length)→I i s→body (enc s i)=some (match f l[i] s with | .inl r=>.inr r | .inr s'=>.inl (enc s' (i+1)))) (h2:∀ i s s',(hi:i<l.length)→I i s→f l[i] s = .inr s'→I (i+1) s')
  (he:∀ s,I l.length s→body (enc s l.length)=some (.inr (fin s))):Z0 body Z9 s=some (Zfc f fin l s0) :=
 ZDp l enc f fin I hs h0 hlen (fun i s r hi hI hf=>by rw [h1 i s hi hI,hf]) (fun i s s' hi hI hf=>⟨by rw [h1 i s hi hI,hf],h2 i s s' hi hI hf⟩) he
def cf (c:Nat→Int):Nat→Nat→Int
 | _,0=>0
 | i,m+1=>if c i≠0 then c i else cf c (i+1) m
theorem Zyj {body:Int→Option (Int ⊕ (Int ⊕ Unit))} (c:Nat→Int) (n:Nat) (hn:n<2^62) (h1:∀ i,i<n→body (i:Int)=if c i≠0 then some (.inr (.inl (c i))) else some (.inl ((i:Int)+1))) (he:body (n:Int)=some (.inr (.inr ()))) :
  Z0 body Z9 0=some (if cf c 0 n≠0 then .inl (cf c 0 n) else .inr ()):=by
 have key:∀ m F i,i+m=n→m<F→Z0 body F (i:Int)=some (if cf c i m≠0 then .inl (cf c i m) else .inr ()):=by
  intro m
  induction m with
  | zero =>
   intro F i hi hF;obtain ⟨F,rfl⟩:∃ g,F=g+1:=⟨F-1,by omega⟩;obtain rfl:i=n:=by omega
   unfold Z0;rw [he,Zh];rfl
  | succ m ih =>
   intro F i hi hF;obtain ⟨F,rfl⟩:∃ g,F=g+1:=⟨F-1,by omega⟩;unfold Z0;rw [h1 i (by omega)];unfold cf;by_cases h:c i≠0
   ·rw [if_pos h,Zh,if_pos h,if_pos h]
   ·rw [if_neg h,Zh,if_neg h];exact ih F (i+1) (by omega) (by omega)
 exact key n Z9 0 (by omega) (Z2a (by omega))
theorem Zwn {c:Nat→Int}:∀ m i,cf c i m=0→∀ j,j<m→c (i+j)=0
 | 0,_,_,j,h=>by omega
 | m+1,i,h0,j,h=>by
  unfold cf at h0
  by_cases hc:c i≠0
  ·rw [if_pos hc] at h0;exact absurd h0 hc
  ·rw [if_neg hc] at h0
   rcases Nat.eq_zero_or_pos j with h1 | h1
   ·subst h1;exact Decidable.not_not.1 hc
   ·have:=Zwn m (i+1) h0 (j-1) (by omega)
    rw [show i+1+(j-1)=i+j by omega] at this
    exact this
theorem neg_d {x:Rat}:decide (x.num.sign<0)=decide (x<0):=decide_eq_decide.2 Zjn
theorem np_d {x:Rat}:decide (x.num.sign≤0)=decide (x≤0):=decide_eq_decide.2 ZEr
theorem or2 (p q:Prop) [Decidable p] [Decidable q]:ifb (decide p) (some true) (some (decide q))=some (decide (p∨q)):=by
 by_cases h:p
 ·rw [decide_eq_true h,ZJ,decide_eq_true (.inl h)]
 ·rw [decide_eq_false h,ZI,show decide (p∨q)=decide q from decide_eq_decide.2 ⟨fun k=>k.resolve_left h,.inr⟩]
theorem sg (x:Rat):Zfd x=some x.num.sign:=rfl
theorem rsg (x:Rat):ZMe x=some x.num.sign:=rfl
theorem ZHm {α:Type} (A B:List α) (z v:α):(A++z :: B).set A.length v=A++v :: B:=by
 rw [List.set_append_right _ _ (Nat.le_refl _),Nat.sub_self];rfl
theorem Zdg {α β:Type} (f:α→β) (l:List α) {k:Nat} (h:k<l.length):(l.take (k+1)).map f=(l.take k).map f++[f l[k]]:=by
 rw [List.take_succ_eq_append_getElem h,List.map_append];rfl
def ZXa {α β:Type} (f:α→β) (z:β) (l:List α) (k:Nat):List β:=(l.take k).map f++List.replicate (l.length-k) z
theorem ZSk {α β:Type} (f:α→β) (z:β) (l:List α) {k:Nat} (h:k≤l.length):(ZXa f z l k).length=l.length:=by unfold ZXa;simp;omega
theorem Zil {α β:Type} (f:α→β) (z:β) (l:List α) {k:Nat} (h:k<l.length):(ZXa f z l k).set k (f l[k])=ZXa f z l (k+1):=by
 unfold ZXa;have e:l.length-k=(l.length-(k+1))+1:=by omega
 have hl:((l.take k).map f).length=k:=by simp;omega
 rw [e,List.replicate_succ,Zdg f l h];have:=ZHm ((l.take k).map f) (List.replicate (l.length-(k+1)) z) z (f l[k]);rw [hl] at this;rw [this,List.append_assoc];rfl
theorem Z9l {α β:Type} (f:α→β) (z:β) (l:List α):ZXa f z l l.length=l.map f:=by unfold ZXa;simp
theorem ZLk {α β γ:Type} (f:β→Option γ) (g:α→β) (h:α→γ) (e:∀ x,f (g x)=some (h x)):∀ l:List α,mapO f (l.map g)=some (l.map h)
 | []=>rfl
 | x :: l=>by rw [List.map_cons,mapO,e x,Zh,ZLk f g h e l,Zh];rfl
noncomputable def Zvk (y:((List UInt8)×Rat×Rat)) (x:((List UInt8)×Rat×Rat)):Option (Bool) :=
 some (y.1==x.1)
noncomputable def ZCh (l:(List ((List UInt8)×Rat×Rat))) (g:((List UInt8)×Rat×Rat)):Option (Int) :=
 bnd (bnd (Z0 (fun s:Int=>match s with
 | a =>
 (ifb (decide (a<(l.length:Int)))
 (bnd (idx l a) fun b =>
 bnd (Zvk ((b.1,b.2.1,b.2.2)) ((g.1,g.2.1,g.2.2))) fun c =>
 ifb (c)
 (some (.inr ((.inl a))))
 (bnd (chk .i64 (a+(1:Int))) fun d =>
 some (.inl d)))
 (some (.inr ((.inr (()))))))) Z9 (0:Int))
 (fun (p:(Int) ⊕ (Unit))=>match p with
 | .inl e =>
 (some ((.inr e)))
 | .inr (()) =>
 (some ((.inl (()))))))
 (fun (p:(Unit) ⊕ (Int))=>match p with
 | .inl (()) =>
 (some (-1:Int))
 | .inr f =>
 (some f))
noncomputable def Zzk (l:(List ((List UInt8)×Rat×Rat))) (g:((List UInt8)×Rat×Rat)):Option (Bool) :=
 bnd (ZCh l ((g.1,g.2.1,g.2.2))) fun a =>
 some (decide ((0:Int)≤a))
end Go.Eng
namespace Go.Eng
open Go.RowKit
variable {P:Program} {K:Nat} {w0:Base} {v0:Zb} {σ:List (Nat×Value)} {ℓ:List Loc} {v:Zb} {a:Act} {w:World}
def ZHd (l:List UInt8):List Int:=l.map fun b=>(b.toNat:Int)
theorem Z5f (l:List UInt8):(ZHd l).length=l.length:=by simp [ZHd]
theorem Zkm (v:Zb):∀ l:List UInt8,Rep.rels (Ze .u8) v (l.map fun b=>Value.int .u8 b.toNat) (ZHd l)
 | []=>rfl
 | b :: l=>⟨[.int .u8 b.toNat],l.map fun b=>Value.int .u8 b.toNat,rfl,⟨rfl,u8_inR b⟩,Zkm v l⟩
theorem St.newView (h:St K w0 v0 σ ℓ v a w) {w':World} {o:Obj} (hx:Ext w w') (hg:w'.heap[w.heap.size]? = some o):
  ∃ v',v.le v'∧v' w.heap.size=some o∧St K w0 v0 σ ℓ v' a w':=by
 have hn:=h.vin.none (Nat.le_refl w.heap.size);refine ⟨fun k=>if k=w.heap.size then some o else v k,fun k x hk=>?_,by simp,h.step hx ⟨fun k x hk=>?_,fun k x hk=>?_,fun k hk=>?_⟩⟩
 ·have:k≠w.heap.size:=fun e=>by subst e;rw [hn] at hk;cases hk
  simp [this,hk]
 ·have:k≠w.heap.size:=fun e=>by subst e;rw [hn] at hk;cases hk
  simp [this,hk]
 ·by_cases he:k=w.heap.size
  ·subst he;simp at hk;subst hk;exact hg
  ·simp [he] at hk;exact hx.get (h.vin _ _ hk)
 ·have:k≠w.heap.size:=by omega
  simp [this]
theorem Z1q (hS:St K w0 v0 σ ℓ v a w) {src dst e:TypeId} (l:List UInt8) (hs:P.underlying src=some .string) (hd:P.underlying dst=some (.slice e)) (he:P.underlying e=some (.int .u8)) (hl:l.length≤maxLen) :
  ∃ q k v' w',(∀ {d:Option Nat} {ty:TypeId} {pos:String} {aft:Array Edge} {g:Option (Nat×Bool)} {x:Operand},ev σ x=some (.string (Zf l))→(execOp a.eval ⟨d,.convert src dst x,ty,pos,aft,g⟩).run P w = .ok (.value (.slice q l.length k)) w') ∧
   v.le v'∧St K w0 v0 σ ℓ v' a w'∧(Zu (Ze .u8)).rel v' [.slice q l.length k] (ZHd l):=by
 have hsz:=ZAd l;have hr:=run_bytes_of_string (P:=P) w src dst e (Zf l) hs hd he;rw [hsz] at hr;have hb:(bytesRow (Zf l) (grownCap w l.length 0 e)).toList.take l.length=l.map fun b=>Value.int .u8 b.toNat:=by
  simp [bytesRow,Zf]
 have hx:Ext w (w.drew.alloc (.cells (bytesRow (Zf l) (grownCap w l.length 0 e)) e ((bytesRow (Zf l) (grownCap w l.length 0 e)).size,(bytesRow (Zf l) (grownCap w l.length 0 e)).size+1))):=(Ext.drew w).trans (Ext.alloc _ _);obtain ⟨v',h1,h2,h3⟩:=hS.newView hx (heap_alloc_new w.drew _);refine ⟨some ⟨w.heap.size,0,none⟩,grownCap w l.length 0 e,v',_,fun {d ty pos aft g x} ex=>?_,h1,h3,some ⟨w.heap.size,0,none⟩,_,by rw [Z5f],by rw [Z5f];exact grownCap_ge _ _ _ _,grownCap_le_maxLen _ _ _ _ hl,.inr ⟨w.heap.size,0,_,_,_,rfl,h2,?_⟩⟩
 ·simp [execOp,hS.eval ex,hr]
 ·rw [Z5f,List.drop_zero,show (Ze .u8).n=1 from rfl,Nat.mul_one,hb];exact Zkm v' l
noncomputable def ZGg (nam:(List UInt8)):Option (Bool) :=
 bnd (ifb (decide ((nam.length:Int)<(1:Int)))
 (some true)
 (some (decide ((24:Int)<(nam.length:Int)))))
 (fun (c:Bool) =>
 (ifb (c)
 (some false)
 (bnd (bnd (Z0 (fun s:Int=>match s with
 | b =>
 (ifb (decide (b<(((ZHd nam)).length:Int)))
 (bnd (idx ((ZHd nam)) b) fun a =>
 bnd (ifb (decide (a<(97:Int)))
 (ifb (decide (a<(48:Int)))
 (some (a != (45:Int)))
 (ifb (decide ((57:Int)<a))
 (some (a != (45:Int)))
 (some false)))
 (ifb (decide ((122:Int)<a))
 (ifb (decide (a<(48:Int)))
 (some (a != (45:Int)))
 (ifb (decide ((57:Int)<a))
 (some (a != (45:Int)))
 (some false)))
 (some false)))
 (fun (d:Bool) =>
 (ifb (d)
 (some (.inr ((.inl false))))
 (bnd (chk .i64 (b+(1:Int))) fun e =>
 some (.inl e)))))
 (some (.inr ((.inr (()))))))) Z9 (0:Int))
 (fun (p:(Bool) ⊕ (Unit))=>match p with
 | .inl f =>
 (some ((.inr f)))
 | .inr (()) =>
 (some ((.inl (()))))))
 (fun (p:(Unit) ⊕ (Bool))=>match p with
 | .inl (()) =>
 (some true)
 | .inr g =>
 (some g)))))
noncomputable def Znf (r:((List UInt8)×(List (List ((List UInt8)×Rat×Rat))))):Option (Int) :=
 bnd (ZGg r.1) fun e =>
 ifb (!(e))
 (some (2:Int))
 (bnd (ifb (decide ((r.2.length:Int)<(1:Int)))
 (some true)
 (some (decide ((6:Int)<(r.2.length:Int)))))
 (fun (f:Bool) =>
 (ifb (f)
 (some (4:Int))
 (bnd (bnd (Z0 (fun s:Int=>match s with
 | d =>
 (ifb (decide (d<(r.2.length:Int)))
 (bnd (idx r.2 d) fun b =>
 bnd (ifb (decide ((b.length:Int)<(1:Int)))
 (some true)
 (some (decide ((16:Int)<(b.length:Int)))))
 (fun (g:Bool) =>
 (ifb (g)
 (some (.inr ((.inl (4:Int)))))
 (bnd (bnd (Z0 (fun s:Int=>match s with
 | c =>
 (ifb (decide (c<(b.length:Int)))
 (bnd (idx b c) fun a =>
 bnd (ZGg a.1) fun h =>
 ifb (!(h))
 (some (.inr ((.inl (2:Int)))))
 (bnd (Zyb b (0:Int) c) fun i =>
 bnd (Zzk i ((a.1,a.2.1,a.2.2))) fun j =>
 ifb (j)
 (some (.inr ((.inl (8:Int)))))
 (bnd (bnd (Zfd a.2.1) fun k =>
 ifb (decide (k≤(0:Int)))
 (some true)
 (bnd (Zfd a.2.2) fun l =>
 ifb (decide (l<(0:Int)))
 (some true)
 (bnd (Zbe a.2.2 a.2.1) fun m =>
 some (decide ((0:Int)≤m)))))
 (fun (n:Bool) =>
 (ifb (n)
 (some (.inr ((.inl (1:Int)))))
 (bnd (chk .i64 (c+(1:Int))) fun o =>
 some (.inl o)))))))
 (some (.inr ((.inr (()))))))) Z9 (0:Int))
 (fun (p:(Int) ⊕ (Unit))=>match p with
 | .inl q =>
 (some ((.inr q)))
 | .inr (()) =>
 (some ((.inl (()))))))
 (fun (p:(Unit) ⊕ (Int))=>match p with
 | .inl (()) =>
 (bnd (chk .i64 (d+(1:Int))) fun t =>
 some (.inl t))
 | .inr u =>
 (some (.inr ((.inl u)))))))))
 (some (.inr ((.inr (()))))))) Z9 (0:Int))
 (fun (p:(Int) ⊕ (Unit))=>match p with
 | .inl v =>
 (some ((.inr v)))
 | .inr (()) =>
 (some ((.inl (()))))))
 (fun (p:(Unit) ⊕ (Int))=>match p with
 | .inl (()) =>
 (some (0:Int))
 | .inr w =>
 (some w))))))
noncomputable def Zhg (nam:(List UInt8)):Option (Bool) :=
 bnd (ifb (decide ((nam.length:Int)<(1:Int)))
 (some true)
 (some (decide ((24:Int)<(nam.length:Int)))))
 (fun (b:Bool) =>
 (ifb (b)
 (some false)
 (bnd (bnd (Z0 (fun s:Int=>match s with
 | a =>
 (ifb (decide (a<(nam.length:Int)))
 (bnd (bnd (idx nam a) fun c =>
 ifb (decide ((97:Int)≤(c.toNat:Int)))
 (bnd (idx nam a) fun d =>
 ifb (decide ((d.toNat:Int)≤(122:Int)))
 (some false)
 (bnd (idx nam a) fun e =>
 ifb (decide ((48:Int)≤(e.toNat:Int)))
 (bnd (idx nam a) fun f =>
 ifb (decide ((f.toNat:Int)≤(57:Int)))
 (some false)
 (bnd (idx nam a) fun g =>
 some (!(((g.toNat:Int))==(45:Int)))))
 (bnd (idx nam a) fun h =>
 some (!(((h.toNat:Int))==(45:Int))))))
 (bnd (idx nam a) fun i =>
 ifb (decide ((48:Int)≤(i.toNat:Int)))
 (bnd (idx nam a) fun j =>
 ifb (decide ((j.toNat:Int)≤(57:Int)))
 (some false)
 (bnd (idx nam a) fun k =>
 some (!(((k.toNat:Int))==(45:Int)))))
 (bnd (idx nam a) fun l =>
 some (!(((l.toNat:Int))==(45:Int))))))
 (fun (m:Bool) =>
 (ifb (m)
 (some (.inr ((.inl false))))
 (bnd (chk .i64 (a+(1:Int))) fun n =>
 some (.inl n)))))
 (some (.inr ((.inr (()))))))) Z9 (0:Int))
 (fun (p:(Bool) ⊕ (Unit))=>match p with
 | .inl o =>
 (some ((.inr o)))
 | .inr (()) =>
 (some ((.inl (()))))))
 (fun (p:(Unit) ⊕ (Bool))=>match p with
 | .inl (()) =>
 (some true)
 | .inr q =>
 (some q)))))
noncomputable def Zii (l:(List ((List UInt8)×Rat×Rat))) (nam:(List UInt8)):Option (Int) :=
 bnd (bnd (Z0 (fun s:Int=>match s with
 | a =>
 (ifb (decide (a<(l.length:Int)))
 (bnd (idx l a) fun b =>
 ifb (b.1==nam)
 (some (.inr ((.inl a))))
 (bnd (chk .i64 (a+(1:Int))) fun c =>
 some (.inl c)))
 (some (.inr ((.inr (()))))))) Z9 (0:Int))
 (fun (p:(Int) ⊕ (Unit))=>match p with
 | .inl d =>
 (some ((.inr d)))
 | .inr (()) =>
 (some ((.inl (()))))))
 (fun (p:(Unit) ⊕ (Int))=>match p with
 | .inl (()) =>
 (some (-1:Int))
 | .inr e =>
 (some e))
noncomputable def Zgf (r:((List UInt8)×(List (List ((List UInt8)×Rat×Rat))))):Option (Int) :=
 bnd (Zhg r.1) fun d =>
 ifb (!(d))
 (some (2:Int))
 (bnd (ifb (decide ((r.2.length:Int)<(1:Int)))
 (some true)
 (some (decide ((6:Int)<(r.2.length:Int)))))
 (fun (e:Bool) =>
 (ifb (e)
 (some (4:Int))
 (bnd (bnd (Z0 (fun s:Int=>match s with
 | c =>
 (ifb (decide (c<(r.2.length:Int)))
 (bnd (idx r.2 c) fun a =>
 bnd (ifb (decide ((a.length:Int)<(1:Int)))
 (some true)
 (some (decide ((16:Int)<(a.length:Int)))))
 (fun (f:Bool) =>
 (ifb (f)
 (some (.inr ((.inl (4:Int)))))
 (bnd (bnd (Z0 (fun s:Int=>match s with
 | b =>
 (ifb (decide (b<(a.length:Int)))
 (bnd (idx a b) fun g =>
 bnd (Zhg g.1) fun h =>
 ifb (!(h))
 (some (.inr ((.inl (2:Int)))))
 (bnd (Zyb a (0:Int) b) fun i =>
 bnd (idx a b) fun j =>
 bnd (Zii i j.1) fun k =>
 ifb (decide ((0:Int)≤k))
 (some (.inr ((.inl (8:Int)))))
 (bnd (bnd (idx a b) fun l =>
 bnd (ZMe l.2.1) fun m =>
 ifb (decide (m≤(0:Int)))
 (some true)
 (bnd (idx a b) fun n =>
 bnd (ZMe n.2.2) fun o =>
 ifb (decide (o<(0:Int)))
 (some true)
 (bnd (idx a b) fun q =>
 bnd (idx a b) fun t =>
 bnd (Zcg q.2.2 t.2.1) fun u =>
 some (decide ((0:Int)≤u)))))
 (fun (v:Bool) =>
 (ifb (v)
 (some (.inr ((.inl (1:Int)))))
 (bnd (chk .i64 (b+(1:Int))) fun w =>
 some (.inl w)))))))
 (some (.inr ((.inr (()))))))) Z9 (0:Int))
 (fun (p:(Int) ⊕ (Unit))=>match p with
 | .inl x =>
 (some ((.inr x)))
 | .inr (()) =>
 (some ((.inl (()))))))
 (fun (p:(Unit) ⊕ (Int))=>match p with
 | .inl (()) =>
 (bnd (chk .i64 (c+(1:Int))) fun y =>
 some (.inl y))
 | .inr z =>
 (some (.inr ((.inl z)))))))))
 (some (.inr ((.inr (()))))))) Z9 (0:Int))
 (fun (p:(Int) ⊕ (Unit))=>match p with
 | .inl A =>
 (some ((.inr A)))
 | .inr (()) =>
 (some ((.inl (()))))))
 (fun (p:(Unit) ⊕ (Int))=>match p with
 | .inl (()) =>
 (some (0:Int))
 | .inr B =>
 (some B))))))
set_option maxRecDepth 100000
theorem Zmi {E β:Type} {l:List E} {body:Int→Option (Int ⊕ (β ⊕ Unit))} (p:E→Bool) (g:Nat→β) (hl:l.length<2^62)
  (h1:∀ i,(hi:i<l.length)→body (i:Int)=if p l[i]=true then some (.inr (.inl (g i))) else some (.inl ((i:Int)+1))) (he:body (l.length:Int)=some (.inr (.inr ()))) :
  Z0 body Z9 0=some (match l.findIdx? p with | some k=>.inl (g k) | none=>.inr ()):=by
 have key:∀ m F i,i+m=l.length→m<F→Z0 body F (i:Int)=some (match (l.drop i).findIdx? p with | some k=>.inl (g (i+k)) | none=>.inr ()):=by
  intro m
  induction m with
  | zero =>
   intro F i hi hF;obtain ⟨F,rfl⟩:∃ g,F=g+1:=⟨F-1,by omega⟩;obtain rfl:i=l.length:=by omega
   unfold Z0;rw [he,Zh,List.drop_length];rfl
  | succ m ih =>
   intro F i hi hF;obtain ⟨F,rfl⟩:∃ g,F=g+1:=⟨F-1,by omega⟩;have hi':i<l.length:=by omega
   unfold Z0;rw [h1 i hi',List.drop_eq_getElem_cons hi',List.findIdx?_cons];by_cases h:p l[i]=true
   ·rw [if_pos h,Zh,if_pos h];rfl
   ·rw [if_neg h,Zh,if_neg h];have:=ih F (i+1) (by omega) (by omega);rw [show ((i:Int)+1)=((i+1:Nat):Int) by omega];refine this.trans ?_
    cases List.findIdx? p (l.drop (i+1)) with
    | none=>rfl
    | some k=>simp only [Option.map_some];rw [show i+1+k=i+(k+1) by omega]
 have:=key l.length Z9 0 (by omega) (Z2a (by omega));rw [List.drop_zero] at this;refine this.trans ?_
 cases List.findIdx? p l with
 | none=>rfl
 | some k=>simp only [Nat.zero_add]
abbrev BS:=List UInt8
abbrev IT:=BS×Rat×Rat
abbrev RCP:=BS×List (List IT)
def Z4c (y:Int):Bool:=bif decide (y<97) then (bif decide (y<48) then y != 45 else bif decide (57<y) then y != 45 else false) else bif decide (122<y) then (bif decide (y<48) then y != 45 else bif decide (57<y) then y != 45 else false) else false
theorem bad1_m (y:Int):(ifb (decide (y<(97:Int)))
 (ifb (decide (y<(48:Int)))
 (some (y != ((45:Int))))
 (ifb (decide ((57:Int)<y))
 (some (y != ((45:Int))))
 (some false)))
 (ifb (decide ((122:Int)<y))
 (ifb (decide (y<(48:Int)))
 (some (y != ((45:Int))))
 (ifb (decide ((57:Int)<y))
 (some (y != ((45:Int))))
 (some false)))
 (some false)))=some (Z4c y):=by
 unfold Z4c;generalize decide (y<97)=a;generalize decide (y<48)=b;generalize decide (57<y)=c;generalize decide (122<y)=d
 cases a <;> cases b <;> cases c <;> cases d <;> rfl
theorem bad2_m (y:Int):(ifb (decide ((97:Int)≤y))
 (ifb (decide (y≤(122:Int)))
 (some false)
 (ifb (decide ((48:Int)≤y))
 (ifb (decide (y≤(57:Int)))
 (some false)
 (some (!(y==((45:Int))))))
 (some (!(y==((45:Int)))))))
 (ifb (decide ((48:Int)≤y))
 (ifb (decide (y≤(57:Int)))
 (some false)
 (some (!(y==((45:Int))))))
 (some (!(y==((45:Int)))))))=some (Z4c y):=by
 unfold Z4c;rw [show decide ((97:Int)≤y) = !decide (y<97) by rw [← decide_not];exact decide_eq_decide.2 (by omega),show decide (y≤(122:Int)) = !decide (122<y) by rw [← decide_not];exact decide_eq_decide.2 (by omega),
  show decide ((48:Int)≤y) = !decide (y<48) by rw [← decide_not];exact decide_eq_decide.2 (by omega),show decide (y≤(57:Int)) = !decide (57<y) by rw [← decide_not];exact decide_eq_decide.2 (by omega)]
 generalize decide (y<97)=a;generalize decide (y<48)=b;generalize decide (57<y)=c;generalize decide (122<y)=d
 cases a <;> cases b <;> cases c <;> cases d <;> rfl
def ZBd (s:BS):Bool:=bif decide ((s.length:Int)<1) || decide ((24:Int)<s.length) then false else (s.findIdx? fun c=>Z4c c.toNat).isNone
theorem or_m (a b:Bool):ifb a (some true) (some b)=some (a || b):=by cases a <;> rfl
theorem Zgo (s:BS) (h:s.length≤maxLen):ZGg s=some (ZBd s):=by
 unfold ZGg ZBd;unfold maxLen at h;rw [or_m,Zh];generalize hb:(decide ((s.length:Int)<1) || decide ((24:Int)<s.length))=b
 cases b with
 | true=>rw [ZJ];rfl
 | false =>
  have hlen:s.length≤24:=by simp at hb;omega
  rw [ZI];refine ZAa (y:=match s.findIdx? fun c=>Z4c c.toNat with | some k=>.inr false | none=>.inl ()) (ZAa (Zmi (l:=s) (fun c=>Z4c c.toNat) (fun _=>false) (by omega) (fun i hi=>?_) ?_) ?_) ?_
  ·have hi':i<(ZHd s).length:=by rw [Z5f];exact hi
   have e:(ZHd s)[i]=(s[i].toNat:Int):=by simp [ZHd]
   simp only;rw [Z5f,decide_eq_true (by omega),ZJ,Zfa hi',Zh,e,bad1_m,Zh]
   cases Z4c s[i].toNat with
   | true=>rw [ZJ,if_pos rfl]
   | false=>rw [ZI,Zma (by omega) (by omega),Zh,if_neg (by decide)]
  ·simp only;rw [Z5f,decide_eq_false (by omega),ZI]
  ·cases s.findIdx? fun c=>Z4c c.toNat <;> rfl
  ·cases s.findIdx? fun c=>Z4c c.toNat <;> rfl
theorem Ztm (s:BS) (h:s.length≤maxLen):Zhg s=some (ZBd s):=by
 unfold Zhg ZBd;unfold maxLen at h;rw [or_m,Zh];generalize hb:(decide ((s.length:Int)<1) || decide ((24:Int)<s.length))=b
 cases b with
 | true=>rw [ZJ];rfl
 | false =>
  have hlen:s.length≤24:=by simp at hb;omega
  rw [ZI];refine ZAa (y:=match s.findIdx? fun c=>Z4c c.toNat with | some k=>.inr false | none=>.inl ()) (ZAa (Zmi (l:=s) (fun c=>Z4c c.toNat) (fun _=>false) (by omega) (fun i hi=>?_) ?_) ?_) ?_
  ·simp only;rw [decide_eq_true (by omega),ZJ,Zfa hi];simp only [Zh];rw [bad2_m,Zh]
   cases Z4c s[i].toNat with
   | true=>rw [ZJ,if_pos rfl]
   | false=>rw [ZI,Zma (by omega) (by omega),Zh,if_neg (by decide)]
  ·simp only;rw [decide_eq_false (by omega),ZI]
  ·cases s.findIdx? fun c=>Z4c c.toNat <;> rfl
  ·cases s.findIdx? fun c=>Z4c c.toNat <;> rfl
def Zrb {α:Type} (l:List (BS×α)) (s:BS):Int:=match l.findIdx? fun x=>x.1==s with | some k=>k | none=>-1
theorem ZZh {α:Type} {l:List (BS×α)} {s:BS} {body:Int→Option (Int ⊕ (Int ⊕ Unit))} (hl:l.length<2^62)
  (h1:∀ i,(hi:i<l.length)→body (i:Int)=if (l[i].1==s)=true then some (.inr (.inl (i:Int))) else some (.inl ((i:Int)+1))) (he:body (l.length:Int)=some (.inr (.inr ()))) :
  bnd (bnd (Z0 body Z9 0) (fun (p:(Int) ⊕ (Unit))=>match p with
 | .inl x55 =>
 (some ((.inr x55)))
 | .inr (()) =>
 (some ((.inl (())))))) (fun (p:(Unit) ⊕ (Int))=>match p with
 | .inl (()) =>
 (some ((-1:Int)))
 | .inr x42 =>
 (some x42))=some (Zrb l s):=by
 rw [Zmi (l:=l) (fun x=>x.1==s) (fun i=>(i:Int)) hl h1 he];unfold Zrb
 cases l.findIdx? fun x=>x.1==s <;> rfl
theorem ZIo (l:List IT) (x:IT) (hl:l.length≤1000):ZCh l x=some (Zrb l x.1):=by
 unfold ZCh Zvk;refine ZZh (by omega) (fun i hi=>?_) ?_
 ·simp only;rw [decide_eq_true (by omega),ZJ,Zfa hi,Zh,Zh]
  cases l[i].1==x.1 with
  | true=>rw [ZJ,if_pos rfl]
  | false=>rw [ZI,Zma (by omega) (by omega),Zh,if_neg (by decide)]
 ·simp only;rw [decide_eq_false (by omega),ZI]
theorem Zps (l:List IT) (s:BS) (hl:l.length≤1000):Zii l s=some (Zrb l s):=by
 unfold Zii;refine ZZh (by omega) (fun i hi=>?_) ?_
 ·simp only;rw [decide_eq_true (by omega),ZJ,Zfa hi,Zh]
  cases l[i].1==s with
  | true=>rw [ZJ,if_pos rfl]
  | false=>rw [ZI,Zma (by omega) (by omega),Zh,if_neg (by decide)]
 ·simp only;rw [decide_eq_false (by omega),ZI]
abbrev gI (l:List IT) (i:Nat):IT:=l.getD i ([],0,0)
abbrev gS (l:List (List IT)) (i:Nat):List IT:=l.getD i []
def cI (l:List IT) (i:Nat):Int:=if ZBd (gI l i).1=false then 2 else if 0≤Zrb (l.take i) (gI l i).1 then 8 else if (gI l i).2.1≤0∨(gI l i).2.2<0∨(gI l i).2.1≤(gI l i).2.2 then 1 else 0
def cS (l:List (List IT)) (i:Nat):Int:=if (gS l i).length<1∨16<(gS l i).length then 4 else cf (cI (gS l i)) 0 (gS l i).length
def Z7a (r:RCP):Int:=if ZBd r.1=false then 2 else if r.2.length<1∨6<r.2.length then 4 else cf (cS r.2) 0 r.2.length
structure SzRc (B:Nat) (r:RCP):Prop where
 nam:r.1.length≤maxLen
 it:∀ l ∈ r.2,∀ x ∈ l,x.1.length≤maxLen∧sz B x.2.1∧sz B x.2.2
theorem SzRc.mono {B C:Nat} {r:RCP} (h:SzRc B r) (hB:B≤C):SzRc C r:=⟨h.nam,fun l hl x hx=>⟨(h.it l hl x hx).1,(h.it l hl x hx).2.1.mono hB,(h.it l hl x hx).2.2.mono hB⟩⟩
theorem ge_d {x y:Rat}:decide ((0:Int)≤(x-y).num.sign)=decide (y≤x):=decide_eq_decide.2 (by rw [ZWr];constructor <;> intro h <;> grind)
theorem or3 (p q r:Prop) [Decidable p] [Decidable q] [Decidable r]:ifb (decide p) (some true) (ifb (decide q) (some true) (some (decide r)))=some (decide (p∨q∨r)):=by
 by_cases h:p
 ·rw [decide_eq_true h,ZJ,decide_eq_true (.inl h)]
 ·rw [decide_eq_false h,ZI];by_cases h2:q
  ·rw [decide_eq_true h2,ZJ,decide_eq_true (.inr (.inl h2))]
  ·rw [decide_eq_false h2,ZI];congr 1;exact decide_eq_decide.2 ⟨fun k=>.inr (.inr k),fun k=>by rcases k with k | k | k;exact absurd k h;exact absurd k h2;exact k⟩
theorem Z6j (b:Int) (hx:True):(match (if b≠0 then (.inl b:Int ⊕ Unit) else .inr ()) with | .inl x=>some (.inr x:Unit ⊕ Int) | .inr ()=>some (.inl ()))=some (if b≠0 then .inr b else .inl ()):=by
 by_cases h:b≠0
 ·rw [if_pos h,if_pos h]
 ·rw [if_neg h,if_neg h]
theorem ZQl {α:Type} (l:List α) {k:Nat} (h:k≤l.length):Zyb l (0:Int) (k:Int)=some (l.take k):=by
 unfold Zyb;rw [if_pos ⟨by omega,by omega,by omega⟩];simp
theorem ZSl {r:RCP} (h:SzRc 7000 r):Znf r=some (Z7a r):=by
 unfold Znf Z7a;rw [Zgo _ h.nam,Zh]
 cases hn:ZBd r.1 with
 | false=>rw [if_pos rfl];rfl
 | true =>
 simp only [Bool.not_true,ZI];rw [if_neg (by decide),or2,Zh];by_cases h0:r.2.length<1∨6<r.2.length
 ·rw [decide_eq_true (by omega),ZJ,if_pos h0]
 rw [decide_eq_false (by omega),ZI,if_neg h0];refine ZAa (y:=if cf (cS r.2) 0 r.2.length≠0 then .inr (cf (cS r.2) 0 r.2.length) else .inl ()) (ZAa (Zyj (cS r.2) r.2.length (by omega) (fun i hi=>?_) ?_) (Z6j _ trivial)) ?_
 ·have g:=ZEb (l:=r.2) (d:=[]) hi;have hit:=h.it r.2[i] (List.getElem_mem hi)
  skip
  rw [decide_eq_true (by omega),ZJ,Zfa hi,Zh,or2,Zh];unfold cS;unfold gS;rw [g];generalize r.2[i]=L at hit;by_cases k0:L.length<1∨16<L.length
  ·rw [decide_eq_true (by omega),ZJ,if_pos k0,if_pos (by decide)]
  rw [decide_eq_false (by omega),ZI,if_neg k0];refine ZAa (y:=if cf (cI L) 0 L.length≠0 then .inr (cf (cI L) 0 L.length) else .inl ()) (ZAa (Zyj (cI L) L.length (by omega) (fun k hk=>?_) ?_) (Z6j _ trivial)) ?_
  ·have g2:=ZEb (l:=L) (d:=(([],0,0):IT)) hk;obtain ⟨z0,z1,z2⟩:=hit L[k] (List.getElem_mem hk)
   skip
   rw [decide_eq_true (by omega),ZJ,Zfa hk,Zh,Zgo _ z0,Zh];unfold cI;unfold gI;rw [g2];generalize L[k]=x at *
   cases hnx:ZBd x.1 with
   | false=>rw [if_pos rfl];rfl
   | true =>
   simp only [Bool.not_true,ZI];rw [if_neg (show ¬ (true=false) by decide),ZQl _ (by omega),Zh];unfold Zzk;rw [ZIo _ _ (by simp;omega),Zh,Zh];by_cases k1:0≤Zrb (L.take k) x.1
   ·rw [decide_eq_true k1,ZJ,if_pos k1,if_pos (by decide)]
   rw [decide_eq_false k1,ZI,if_neg k1,sg,Zh,sg,Zh,qcmp_ok z2 z1 (by omega),Zh,np_d,neg_d,ge_d,or3,Zh];by_cases k2:x.2.1≤0∨x.2.2<0∨x.2.1≤x.2.2
   ·rw [decide_eq_true k2,ZJ,if_pos k2,if_pos (by decide)]
   ·rw [decide_eq_false k2,ZI,if_neg k2,Zma (by omega) (by omega),Zh,if_neg (by decide)]
  ·skip
   rw [decide_eq_false (by omega),ZI]
  ·generalize cf (cI L) 0 L.length=b;by_cases hb:b≠0
   ·rw [if_pos hb,if_pos hb]
   ·rw [if_neg hb,if_neg hb];simp only;rw [Zma (by omega) (by omega),Zh]
 ·skip
  rw [decide_eq_false (by omega),ZI]
 ·generalize cf (cS r.2) 0 r.2.length=b;by_cases hb:b≠0
  ·rw [if_pos hb]
  ·rw [if_neg hb,Decidable.not_not.1 hb]
theorem Zql {r:RCP} (h:SzRc 7000 r):Zgf r=some (Z7a r):=by
 unfold Zgf Z7a;rw [Ztm _ h.nam,Zh]
 cases hn:ZBd r.1 with
 | false=>rw [if_pos rfl];rfl
 | true =>
 simp only [Bool.not_true,ZI];rw [if_neg (by decide),or2,Zh];by_cases h0:r.2.length<1∨6<r.2.length
 ·rw [decide_eq_true (by omega),ZJ,if_pos h0]
 rw [decide_eq_false (by omega),ZI,if_neg h0];refine ZAa (y:=if cf (cS r.2) 0 r.2.length≠0 then .inr (cf (cS r.2) 0 r.2.length) else .inl ()) (ZAa (Zyj (cS r.2) r.2.length (by omega) (fun i hi=>?_) ?_) (Z6j _ trivial)) ?_
 ·have g:=ZEb (l:=r.2) (d:=[]) hi;have hit:=h.it r.2[i] (List.getElem_mem hi)
  skip
  rw [decide_eq_true (by omega),ZJ,Zfa hi,Zh,or2,Zh];unfold cS;unfold gS;rw [g];generalize r.2[i]=L at hit;by_cases k0:L.length<1∨16<L.length
  ·rw [decide_eq_true (by omega),ZJ,if_pos k0,if_pos (by decide)]
  rw [decide_eq_false (by omega),ZI,if_neg k0];refine ZAa (y:=if cf (cI L) 0 L.length≠0 then .inr (cf (cI L) 0 L.length) else .inl ()) (ZAa (Zyj (cI L) L.length (by omega) (fun k hk=>?_) ?_) (Z6j _ trivial)) ?_
  ·have g2:=ZEb (l:=L) (d:=(([],0,0):IT)) hk;obtain ⟨z0,z1,z2⟩:=hit L[k] (List.getElem_mem hk)
   skip
   rw [decide_eq_true (by omega),ZJ,Zfa hk];simp only [Zh];rw [Ztm _ z0,Zh];unfold cI;unfold gI;rw [g2];generalize L[k]=x at *
   cases hnx:ZBd x.1 with
   | false=>rw [if_pos rfl];rfl
   | true =>
   simp only [Bool.not_true,ZI];rw [if_neg (show ¬ (true=false) by decide),ZQl _ (by omega),Zh,Zps _ _ (by simp;omega),Zh];by_cases k1:0≤Zrb (L.take k) x.1
   ·rw [decide_eq_true k1,ZJ,if_pos k1,if_pos (by decide)]
   rw [decide_eq_false k1,ZI,if_neg k1,rsg,Zh,rsg,Zh,rcmp_ok z2 z1 (by omega),Zh,np_d,neg_d,ge_d,or3,Zh];by_cases k2:x.2.1≤0∨x.2.2<0∨x.2.1≤x.2.2
   ·rw [decide_eq_true k2,ZJ,if_pos k2,if_pos (by decide)]
   ·rw [decide_eq_false k2,ZI,if_neg k2,Zma (by omega) (by omega),Zh,if_neg (by decide)]
  ·skip
   rw [decide_eq_false (by omega),ZI]
  ·generalize cf (cI L) 0 L.length=b;by_cases hb:b≠0
   ·rw [if_pos hb,if_pos hb]
   ·rw [if_neg hb,if_neg hb];simp only;rw [Zma (by omega) (by omega),Zh]
 ·skip
  rw [decide_eq_false (by omega),ZI]
 ·generalize cf (cS r.2) 0 r.2.length=b;by_cases hb:b≠0
  ·rw [if_pos hb]
  ·rw [if_neg hb,Decidable.not_not.1 hb]
set_option maxRecDepth 100000
abbrev AM:=BS×Rat
abbrev DV:=BS×Rat×Bool
abbrev DVo:=BS×Option Rat×Bool
theorem Zeh {α:Type} {l:List (BS×α)} {s:BS} (h:¬ Zrb l s<0):∃ k:Nat,Zrb l s=k∧k<l.length:=by
 unfold Zrb at *
 cases e:l.findIdx? fun x=>x.1==s with
 | none=>rw [e] at h;exact absurd (by decide) h
 | some k =>
  rw [List.findIdx?_eq_some_iff_getElem] at e;exact ⟨k,rfl,e.1⟩
def d0 (x:IT):DV:=(x.1,-x.2.1,false)
abbrev gD' (l:List DV) (i:Nat):DV:=l.getD i ([],0,false)
theorem Z8q {r:RCP} (h:Z7a r=0) {i:Nat} (hi:i<r.2.length):(gS r.2 i).length≤16:=by
 unfold Z7a at h;by_cases h1:ZBd r.1=false
 ·rw [if_pos h1] at h;exact absurd h (by decide)
 rw [if_neg h1] at h;by_cases h2:r.2.length<1∨6<r.2.length
 ·rw [if_pos h2] at h;exact absurd h (by decide)
 rw [if_neg h2] at h;have:=Zwn _ _ h i hi;rw [Nat.zero_add] at this;unfold cS at this;by_cases h3:(gS r.2 i).length<1∨16<(gS r.2 i).length
 ·rw [if_pos h3] at this;exact absurd this (by decide)
 ·omega
theorem ZQn {E S R:Type} {f:E→S→R ⊕ S} {fin:S→R} (I:Nat→S→Prop) (J:R→Prop) (l:List E) (hf:∀ i s r,(hi:i<l.length)→I i s→f l[i] s = .inl r→J r)
  (hs:∀ i s s',(hi:i<l.length)→I i s→f l[i] s = .inr s'→I (i+1) s') (he:∀ s,I l.length s→J (fin s)) {s0:S} (h0:I 0 s0):J (Zfc f fin l s0):=by
 have key:∀ m i s,i+m=l.length→I i s→J (Zfc f fin (l.drop i) s):=by
  intro m
  induction m with
  | zero =>
   intro i s hi hI;obtain rfl:i=l.length:=by omega
   rw [List.drop_length];exact he s hI
  | succ m ih =>
   intro i s hi hI;have hi':i<l.length:=by omega
   rw [List.drop_eq_getElem_cons hi'];unfold Zfc
   cases hx:f l[i] s with
   | inl r=>exact hf i s r hi' hI hx
   | inr s'=>exact ih (i+1) s' (by omega) (hs i s s' hi' hI hx)
 have:=key l.length 0 s0 (by omega) h0
 rwa [List.drop_zero] at this
section
variable {r:RCP} {stage:Int} {l:List AM} (h:SzRc 7000 r) (hl:∀ a ∈ l,sz 7000 a.2) (hn:l.length≤70)
include h hl hn
end
noncomputable def Zml (p:(Rat×Rat)) (t:Rat):Option (Bool) :=
 bnd (Zbe p.2 t) fun a =>
 some (decide ((0:Int)≤a))
noncomputable def Z2l (l:(List (Rat×Rat))) (g:Rat):Option (Int) :=
 bnd (bnd (Z0 (fun s:Int=>match s with
 | a =>
 (ifb (decide (a<(l.length:Int)))
 (bnd (idx l a) fun b =>
 bnd (Zml ((b.1,b.2)) g) fun c =>
 ifb (c)
 (some (.inr ((.inl a))))
 (bnd (chk .i64 (a+(1:Int))) fun d =>
 some (.inl d)))
 (some (.inr ((.inr (()))))))) Z9 (0:Int))
 (fun (p:(Int) ⊕ (Unit))=>match p with
 | .inl e =>
 (some ((.inr e)))
 | .inr (()) =>
 (some ((.inl (()))))))
 (fun (p:(Unit) ⊕ (Int))=>match p with
 | .inl (()) =>
 (some (-1:Int))
 | .inr f =>
 (some f))
noncomputable def ZVk (p:(Rat×Rat)) (q:(Rat×Rat)):Option (Rat) :=
 bnd (bnd (Zmf q.2 p.2) fun a =>
 bnd (Zmf q.1 p.1) fun b =>
 bnd (ZPd a b) fun c =>
 some c.1)
 (fun (d:Rat) =>
 (some d))
noncomputable def Znl (l:(List (Rat×Rat))) (t:Rat):Option (Rat×Int) :=
 bnd (Z2l l t) fun a =>
 ifb (decide (a<(0:Int)))
 (some (((0:Rat),(5:Int))))
 (ifb (a==(0:Int))
 (bnd (idx l (0:Int)) fun d =>
 some ((d.1,(0:Int))))
 (bnd (chk .i64 (a-(1:Int))) fun e =>
 bnd (idx l e) fun b =>
 bnd (bnd (Zmf t b.2) fun f =>
 bnd (idx l a) fun c =>
 bnd (ZVk ((b.1,b.2)) ((c.1,c.2))) fun g =>
 bnd (ZPd f g) fun h =>
 some h.1)
 (fun (i:Rat) =>
 (bnd (ZRc b.1 i) fun j =>
 some ((j,(0:Int)))))))
noncomputable def ZWj (fv:Nat):Option (Nat) :=
 some ((Zdd .u64 ((fv:Int)) (9223372036854775808:Int)).toNat)
noncomputable def Znj (x:Nat):Option (Nat×Int) :=
 bnd (ZWj x) fun a =>
 ifb (fLt .f64 a ((4503599627370496:Nat)))
 (bnd (fMul .f64 x ((4841369599423283200:Nat))) fun b =>
 some ((b,(-52:Int))))
 (some ((x,(0:Int))))
noncomputable def Z4f (fv:Nat) (sign:Int):Option (Bool) :=
 bnd (ifb (sign==(0:Int))
 (bnd (ZWj fv) fun a =>
 some a)
 (bnd (ifb (decide (sign<(0:Int)))
 (bnd (fNeg .f64 fv) fun b =>
 some b)
 (some fv))
 (fun (c:Nat) =>
 (some c))))
 (fun (d:Nat) =>
 (some (fGt .f64 d ((9218868437227405311:Nat)))))
noncomputable def Zpf (fv:Nat):Option (Bool) :=
 some (fNe .f64 fv fv)
noncomputable def Zal (fv:Nat):Option (Nat×Int) :=
 ifb (fEq .f64 fv ((0:Nat)))
 (some ((fv,(0:Int))))
 (bnd (bnd (Z4f fv (0:Int)) fun b =>
 ifb (b)
 (some true)
 (bnd (Zpf fv) fun c =>
 some c))
 (fun (d:Bool) =>
 (ifb (d)
 (some ((fv,(0:Int))))
 (bnd (Znj fv) fun a =>
 bnd (ZSa .u64 ((a.1:Int)) (52:Int)) fun e =>
 bnd (chk .i64 ((IntKind.i64.wrap (Z5a .u64 e (2047:Int)))-(1023:Int))) fun f =>
 bnd (chk .i64 (f+(1:Int))) fun g =>
 bnd (chk .i64 (a.2+g)) fun h =>
 some (((orI .u64 (Zdd .u64 ((a.1:Int)) (9218868437227405312:Int)) (4602678819172646912:Int)).toNat,h))))))
noncomputable def Z8k (fv:Nat):Option (Nat×Int) :=
 bnd (Zal fv) fun a =>
 some ((a.1,a.2))
noncomputable def Zdl (fv:Nat) (sign:Nat):Option (Nat) :=
 some ((orI .u64 (Zdd .u64 ((fv:Int)) (9223372036854775808:Int)) (Z5a .u64 ((sign:Int)) (9223372036854775808:Int))).toNat)
noncomputable def Zbj (sign:Int):Option (Nat) :=
 bnd (ifb (decide ((0:Int)≤sign))
 (some (9218868437227405312:Int))
 (some (18442240474082181120:Int)))
 (fun (a:Int) =>
 (some a.toNat))
noncomputable def ZQk (frac:Nat) (ex:Int):Option (Nat) :=
 ifb (fEq .f64 frac ((0:Nat)))
 (some frac)
 (bnd (bnd (Z4f frac (0:Int)) fun c =>
 ifb (c)
 (some true)
 (bnd (Zpf frac) fun d =>
 some d))
 (fun (e:Bool) =>
 (ifb (e)
 (some frac)
 (bnd (Znj frac) fun a =>
 bnd (chk .i64 (ex+a.2)) fun f =>
 bnd (ZSa .u64 ((a.1:Int)) (52:Int)) fun g =>
 bnd (chk .i64 ((Z5a .i64 (IntKind.i64.wrap g) (2047:Int))-(1023:Int))) fun h =>
 bnd (chk .i64 (f+h)) fun b =>
 ifb (decide (b<(-1075:Int)))
 (bnd (Zdl ((0:Nat)) a.1) fun i =>
 some i)
 (ifb (decide ((1023:Int)<b))
 (ifb (fLt .f64 a.1 ((0:Nat)))
 (bnd (Zbj (-1:Int)) fun j =>
 some j)
 (bnd (Zbj (1:Int)) fun k =>
 some k))
 (bnd (ifb (decide (b<(-1022:Int)))
 (bnd (chk .i64 (b+(53:Int))) fun l =>
 some ((l,(4368491638549381120:Nat))))
 (some ((b,(4607182418800017408:Nat)))))
 (fun (p:Int×Nat)=>match p with
 | (m,n) =>
 (bnd (chk .i64 (m+(1023:Int))) fun o =>
 bnd (Znc .u64 (IntKind.u64.wrap o) (52:Int)) fun q =>
 bnd (fMul .f64 n ((orI .u64 (Zdd .u64 ((a.1:Int)) (9218868437227405312:Int)) q).toNat)) fun r =>
 some r))))))))
noncomputable def ZPk (frac:Nat) (ex:Int):Option (Nat) :=
 bnd (ZQk frac ex) fun a =>
 some a
noncomputable def ZHe (fv:Nat):Option (Rat×Int) :=
 bnd (bnd (Zpf fv) fun d =>
 ifb (d)
 (some true)
 (bnd (Z4f fv (0:Int)) fun e =>
 some e))
 (fun (f:Bool) =>
 (ifb (f)
 (some (((0:Rat),(1:Int))))
 (bnd (Z8k fv) fun c =>
 bnd (ZPk c.1 (53:Int)) fun g =>
 bnd (Zfi .f64 .i64 g) fun h =>
 bnd (ofF h) fun a =>
 bnd (chk .i64 (c.2-(53:Int))) fun b =>
 ifb (decide ((0:Int)≤b))
 (bnd (Z0d a.natAbs b) fun i =>
 bnd (Zsc (decide (a<0)) i) fun j =>
 bnd (Zcf j ((0:Nat))) fun k =>
 some ((k,(0:Int))))
 (bnd (Zmd (1:Int)) fun l =>
 bnd (Z0d l (IntKind.i64.wrap (-b))) fun m =>
 bnd (ZCd a m) fun n =>
 some ((n,(0:Int)))))))
section
variable {P:Program} {K:Nat} {w0:Base} {v0:Zb} {σ:List (Nat×Value)} {ℓ:List Loc} {v:Zb} {a:Act} {w:World} {ops:Array Oper} {Q:Exit→Act→World→Prop} {rest:List Oper}
def ZNf (r:Nat):Prop:=r<18446744073709551616∧9218868437227405312<r%9223372036854775808
theorem Ztp {s t:TypeId} {k0:FloatKind} {b f:Nat} {g:Bool} (hs:P.underlying s=some (.float k0)) (ht:P.underlying t=some (.float .f64)) (h:FloatKind.f32.decode b = .nan g f) (w:World) :
  ∃ r,ZNf r∧(convert s t (.float .f32 b)).run P w = .ok (.float .f64 r) w.drew:=by
 refine ⟨(Question.nanConv .f64 b).cut (w.tape w.drawn (Question.nanConv .f64 b)),?_,?_⟩
 ·generalize w.tape w.drawn (Question.nanConv .f64 b)=n;show ZNf ((n%2)*2^63+0x7ff0000000000000+1+(n / 2)%(2^52-1));have e1:(2:Nat)^63=9223372036854775808:=by decide
  have e2:(2:Nat)^52=4503599627370496:=by decide
  rw [e1,e2];unfold ZNf;have h1:=Nat.mod_lt (n / 2) (show 0<4503599627370496-1 by decide);have h2:=Nat.mod_lt n (show 0<2 by decide);generalize n / 2%(4503599627370496-1)=x at *;generalize n%2=y at *;rcases (show y=0∨y=1 by omega) with rfl | rfl
  ·refine ⟨by omega,by omega⟩
  ·refine ⟨by omega,by omega⟩
 ·simp [convert,run_underlying hs,run_underlying ht,Conv.floatToFloat,h,choose,Sem.run,Question.forced]
theorem Zjq {s t:TypeId} {k0:FloatKind} {b:Nat} {g:Bool} (hs:P.underlying s=some (.float k0)) (ht:P.underlying t=some (.float .f64)) (h:FloatKind.f32.decode b = .infinity g) (w:World) :
  (convert s t (.float .f32 b)).run P w = .ok (.float .f64 (FloatKind.f64.encode (.infinity g))) w:=by
 simp [convert,run_underlying hs,run_underlying ht,Conv.floatToFloat,h]
theorem ZCm (hS:St K w0 v0 σ ℓ v a w) {s t ty:TypeId} {d:Option Nat} {pos:String} {aft:Array Edge} {g:Option (Nat×Bool)} {x:Operand} {y z:Value} {w':World} (e:ev σ x=some y) (h:(convert s t y).run P w = .ok z w') :
  (execOp a.eval ⟨d,.convert s t x,ty,pos,aft,g⟩).run P w = .ok (.value z) w':=by
 simp [execOp,hS.eval e,h]
theorem ovd {o:Oper} {d:Nat} {x:Value} (hS:St K w0 v0 σ ℓ v a w) (hc:(o.dst,o.guard,Nat.ble (d+1) K)=(some d,none,true)) (hrun:(execOp a.eval o).run P w = .ok (.value x) w.drew)
  (h:∀ a,St K w0 v0 ((d,x) :: σ) ℓ v a w.drew→wpList P ops Q rest a w.drew):wpList P ops Q (o :: rest) a w :=
 ZTd (ZOc (Prod.mk.inj (Prod.mk.inj hc).2).1) (ZIe hrun (by
  rw [(Prod.mk.inj hc).1]
  exact h _ (hS.drew.put x (Nat.le_of_ble_eq_true (Prod.mk.inj (Prod.mk.inj hc).2).2))))
end
abbrev canon64:Nat:=9221120237041090560
def ZYi (b:Nat):Option Nat:=match FloatKind.f32.decode b with
 | .number _ _ _=>Zxh .f32 .f64 b
 | _=>some canon64
def as64 (y r:Nat):Prop:=r=y∨(y=canon64∧(ZNf r ∨ ∃ g,r=FloatKind.f64.encode (.infinity g)))
section
variable {P:Program} {K:Nat} {w0:Base} {v0:Zb} {σ:List (Nat×Value)} {ℓ:List Loc} {v:Zb} {a:Act} {w:World} {ops:Array Oper} {Q:Exit→Act→World→Prop} {rest:List Oper}
theorem convN {s t:TypeId} {k0:FloatKind} {b y:Nat} (hs:P.underlying s=some (.float k0)) (ht:P.underlying t=some (.float .f64)) (h:ZYi b=some y) (w:World) :
  ∃ r,as64 y r∧r<18446744073709551616∧((convert s t (.float .f32 b)).run P w = .ok (.float .f64 r) w∨(convert s t (.float .f32 b)).run P w = .ok (.float .f64 r) w.drew):=by
 unfold ZYi at h
 cases hd:FloatKind.f32.decode b with
 | number sg m e =>
  rw [hd] at h;exact ⟨y,.inl rfl,Z4p h,.inl (conv_ff hs ht h w)⟩
 | infinity g =>
  rw [hd] at h;refine ⟨_,.inr ⟨(Option.some.inj h).symm,.inr ⟨g,rfl⟩⟩,?_,.inl (Zjq hs ht hd w)⟩
  cases g <;> decide
 | nan g f =>
  rw [hd] at h;obtain ⟨r,h1,h2⟩:=Ztp hs ht hd w;exact ⟨r,.inr ⟨(Option.some.inj h).symm,.inl h1⟩,h1.1,.inr h2⟩
theorem ovn {s t ty:TypeId} {k0:FloatKind} {d:Nat} {pos:String} {aft:Array Edge} {x:Operand} {b y:Nat} (hS:St K w0 v0 σ ℓ v a w) (hc:(ev σ x,Nat.ble (d+1) K)=(some (.float .f32 b),true))
  (hs:P.underlying s=some (.float k0)) (ht:P.underlying t=some (.float .f64)) (hy:ZYi b=some y)
  (h:∀ r,as64 y r→r<18446744073709551616→∀ a w',St K w0 v0 ((d,.float .f64 r) :: σ) ℓ v a w'→wpList P ops Q rest a w'):wpList P ops Q (⟨some d,.convert s t x,ty,pos,aft,none⟩ :: rest) a w:=by
 have e:=(Prod.mk.inj hc).1;have k:=(Prod.mk.inj hc).2;obtain ⟨r,h1,h2,hrun⟩:=convN hs ht hy w;rcases hrun with hr | hr
 ·exact ov hS (by rw [k]) (ZCm hS e hr) fun a hS=>h r h1 h2 a _ hS
 ·exact ovd hS (by rw [k]) (ZCm hS e hr) fun a hS=>h r h1 h2 a _ hS
end
noncomputable def Zuk (fv:Nat):Option (Rat×Int) :=
 bnd (ZYi fv) fun b =>
 bnd (ZHe b) fun a =>
 some ((a.1,a.2))
noncomputable def Zgl (l:(List (Nat×Nat))):Option ((List (Rat×Rat))×Int) :=
 bnd (ifb (decide ((l.length:Int)<(2:Int)))
 (some true)
 (some (decide ((1000:Int)<(l.length:Int)))))
 (fun (h:Bool) =>
 (ifb (h)
 (some ((([]:(List (Rat×Rat))),(4:Int))))
 (bnd (bnd (Z0 (fun s:(List (Rat×Rat))×Int×Int=>match s with
 | (c,a,e) =>
 (ifb (decide (a<(l.length:Int)))
 (bnd (idx l a) fun f =>
 bnd (Zuk f.1) fun b =>
 bnd (Zuk f.2) fun d =>
 bnd (ifb (b.2 != (0:Int))
 (some true)
 (ifb (d.2 != (0:Int))
 (some true)
 (bnd (Zfd b.1) fun i =>
 some (decide (i<(0:Int))))))
 (fun (j:Bool) =>
 (ifb (j)
 (some (.inr ((.inl ((([]:(List (Rat×Rat))),(1:Int)))))))
 (bnd (ifb (decide ((0:Int)<a))
 (bnd (chk .i64 (a-(1:Int))) fun k =>
 bnd (idx c k) fun m =>
 bnd (Zbe b.1 m.1) fun n =>
 some (decide (n≤(0:Int))))
 (some false))
 (fun (o:Bool) =>
 (ifb (o)
 (some (.inr ((.inl ((([]:(List (Rat×Rat))),(7:Int)))))))
 (bnd (ZNa 112 (c++[(b.1,d.1)])) fun D =>
 bnd (idx ((c++[(b.1,d.1)])) e) fun q =>
 bnd (Zbe d.1 q.2) fun r =>
 bnd (ifb (decide (r<(0:Int)))
 (some a)
 (some e))
 (fun (t:Int) =>
 (bnd (chk .i64 (a+(1:Int))) fun u =>
 some (.inl (((c++[(b.1,d.1)]),u,t))))))))))))
 (some (.inr ((.inr ((c,e)))))))) Z9 ((([]:(List (Rat×Rat))),(0:Int),(0:Int))))
 (fun (p:((List (Rat×Rat))×Int) ⊕ ((List (Rat×Rat))×Int))=>match p with
 | .inl ((v,w)) =>
 (some ((.inr ((v,w)))))
 | .inr ((x,y)) =>
 (some ((.inl ((x,y)))))))
 (fun (p:((List (Rat×Rat))×Int) ⊕ ((List (Rat×Rat))×Int))=>match p with
 | .inl ((g,z)) =>
 (bnd (Zyb g z ((g.length:Int))) fun A =>
 some ((A,(0:Int))))
 | .inr ((B,C)) =>
 (some ((B,C)))))))
noncomputable def Z8l (l:(List (Nat×Nat))) (t:Rat):Option (Rat×Int) :=
 bnd (Zgl l) fun a =>
 ifb (a.2 != (0:Int))
 (some (((0:Rat),a.2)))
 (bnd (Znl a.1 t) fun b =>
 some ((b.1,b.2)))
noncomputable def ZIk (r:(Rat×(List (Rat×Rat)))):Option (Int) :=
 ifb (decide ((10:Int)<(r.2.length:Int)))
 (some (4:Int))
 (bnd (Zfd r.1) fun c =>
 ifb (decide (c<(0:Int)))
 (some (1:Int))
 (bnd (bnd (Z0 (fun s:Int=>match s with
 | a =>
 (ifb (decide (a<(r.2.length:Int)))
 (bnd (idx r.2 a) fun b =>
 bnd (bnd (Zfd b.1) fun d =>
 ifb (decide (d<(0:Int)))
 (some true)
 (bnd (Zfd b.2) fun e =>
 some (decide (e≤(0:Int)))))
 (fun (f:Bool) =>
 (ifb (f)
 (some (.inr ((.inl (1:Int)))))
 (bnd (ifb (decide ((0:Int)<a))
 (bnd (chk .i64 (a-(1:Int))) fun g =>
 bnd (idx r.2 g) fun h =>
 bnd (Zbe b.2 h.2) fun i =>
 some (decide (i≤(0:Int))))
 (some false))
 (fun (j:Bool) =>
 (ifb (j)
 (some (.inr ((.inl (7:Int)))))
 (bnd (chk .i64 (a+(1:Int))) fun k =>
 some (.inl k))))))))
 (some (.inr ((.inr (()))))))) Z9 (0:Int))
 (fun (p:(Int) ⊕ (Unit))=>match p with
 | .inl l =>
 (some ((.inr l)))
 | .inr (()) =>
 (some ((.inl (()))))))
 (fun (p:(Unit) ⊕ (Int))=>match p with
 | .inl (()) =>
 (some (0:Int))
 | .inr m =>
 (some m))))
noncomputable def Ztl (t:Rat) (fw:Rat):Option (Rat×Rat) :=
 bnd (ZJd fw t) fun a =>
 bnd (ZJd a a) fun b =>
 bnd (bnd (Zvd (1:Int)) fun d =>
 bnd (ZRc b d) fun e =>
 some e)
 (fun (c:Rat) =>
 (bnd (ZPd b c) fun f =>
 bnd (ZPd a c) fun g =>
 some ((f.1,g.1))))
noncomputable def Z7k (r:(Rat×(List (Rat×Rat)))) (fw:Rat):Option (Rat×Rat) :=
 bnd (bnd (Z0 (fun s:Rat×Rat×Int=>match s with
 | (c,d,a) =>
 (ifb (decide (a<(r.2.length:Int)))
 (bnd (idx r.2 a) fun b =>
 bnd (Ztl b.2 fw) fun e =>
 bnd (ZJd e.1 b.1) fun f =>
 bnd (ZRc c f) fun g =>
 bnd (ZJd e.2 b.1) fun h =>
 bnd (ZRc d h) fun i =>
 bnd (chk .i64 (a+(1:Int))) fun j =>
 some (.inl ((g,i,j))))
 (some (.inr ((c,d)))))) Z9 ((r.1,(0:Rat),(0:Int))))
 (fun (p:Rat×Rat)=>match p with
 | (k,l) =>
 (some ((k,l)))))
 (fun (p:Rat×Rat)=>match p with
 | (m,n) =>
 (some ((m,n))))
noncomputable def ZJl (r:(Rat×(List (Rat×Rat)))) (fw:Rat):Option (Rat×Rat×Int) :=
 bnd (ZIk ((r.1,r.2))) fun a =>
 ifb (a != (0:Int))
 (some (((0:Rat),(0:Rat),a)))
 (bnd (Zfd fw) fun c =>
 ifb (decide (c<(0:Int)))
 (some (((0:Rat),(0:Rat),(1:Int))))
 (bnd (Z7k ((r.1,r.2)) fw) fun b =>
 some ((b.1,b.2,(0:Int)))))
noncomputable def Zgg  : Option (Bool) :=
 bnd (Zvd (1:Int)) fun c =>
 bnd (Zvd (2:Int)) fun d =>
 bnd (Zvd (1:Int)) fun e =>
 bnd (Zvd (1:Int)) fun f =>
 bnd (ZJl ((c,[(d,e)])) f) fun a =>
 bnd (Zvd (4:Int)) fun g =>
 bnd (Z8l ([((0:Nat),(1084227584:Nat)),((1092616192:Nat),(1073741824:Nat)),((1101004800:Nat),(1073741824:Nat)),((1106247680:Nat),(1092616192:Nat))]) g) fun b =>
 bnd (ifb (a.2.2==(0:Int))
 (ifb (b.2==(0:Int))
 (bnd (Zee a.1) fun h =>
 ifb (h==(([50]:List UInt8)))
 (bnd (Zee a.2.1) fun i =>
 ifb (i==(([49]:List UInt8)))
 (bnd (Zee b.1) fun j =>
 some (j==(([52,53,47,50]:List UInt8))))
 (some false))
 (some false))
 (some false))
 (some false))
 (fun (k:Bool) =>
 (some k))
set_option maxRecDepth 100000 in
theorem Zrl:Zgg=some true:=by
 unfold Zgg;rw [ZFp];decide +kernel
noncomputable def Zhf (r:((List UInt8)×(List (List ((List UInt8)×(Int×Int)×(Int×Int)))))):Option (((List UInt8)×(List (List ((List UInt8)×Rat×Rat))))×((List UInt8)×(List (List ((List UInt8)×Rat×Rat))))×Bool) :=
 bnd (some (((r.1,([]:(List (List ((List UInt8)×Rat×Rat))))),(r.1,([]:(List (List ((List UInt8)×Rat×Rat))))))))
 (fun (p:((List UInt8)×(List (List ((List UInt8)×Rat×Rat))))×((List UInt8)×(List (List ((List UInt8)×Rat×Rat)))))=>match p with
 | (c,d) =>
 (ifb (decide ((8:Int)<(r.2.length:Int)))
 (some (((c.1,c.2),(d.1,d.2),false)))
 (bnd (mk 24 ((r.2.length:Int)) ((r.2.length:Int))) fun J =>
 bnd (mk 24 ((r.2.length:Int)) ((r.2.length:Int))) fun K =>
 bnd (bnd (Z0 (fun s:(List (List ((List UInt8)×Rat×Rat)))×(List (List ((List UInt8)×Rat×Rat)))×Int=>match s with
 | (g,h,b) =>
 (ifb (decide (b<(r.2.length:Int)))
 (bnd (idx r.2 b) fun i =>
 ifb (decide ((20:Int)<(i.length:Int)))
 (some (.inr ((.inl (((c.1,h),(d.1,g),false))))))
 (bnd (bnd (Z0 (fun s:(List (List ((List UInt8)×Rat×Rat)))×(List (List ((List UInt8)×Rat×Rat)))×Int=>match s with
 | (e,f,j) =>
 (ifb (decide (j<(i.length:Int)))
 (bnd (idx i j) fun a =>
 bnd (idx f b) fun k =>
 bnd (ZNa 128 (([]:(List ((List UInt8)×Rat×Rat)))++k)) fun L =>
 bnd (Zuf ((a.2.1.1,a.2.1.2))) fun m =>
 bnd (Zuf ((a.2.2.1,a.2.2.2))) fun n =>
 bnd (ZNa 128 ((([]:(List ((List UInt8)×Rat×Rat)))++k)++[(a.1,m,n)])) fun M =>
 bnd (idx f b) fun N =>
 bnd (idx e b) fun l =>
 bnd (ZNa 128 (([]:(List ((List UInt8)×Rat×Rat)))++l)) fun O =>
 bnd (Zvf ((a.2.1.1,a.2.1.2))) fun o =>
 bnd (Zvf ((a.2.2.1,a.2.2.2))) fun q =>
 bnd (ZNa 128 ((([]:(List ((List UInt8)×Rat×Rat)))++l)++[(a.1,o,q)])) fun P =>
 bnd (idx e b) fun Q =>
 bnd (chk .i64 (j+(1:Int))) fun t =>
 some (.inl (((e.set (b).toNat (((([]:(List ((List UInt8)×Rat×Rat)))++l)++[(a.1,o,q)]))),(f.set (b).toNat (((([]:(List ((List UInt8)×Rat×Rat)))++k)++[(a.1,m,n)]))),t))))
 (some (.inr ((e,f)))))) Z9 ((g,h,(0:Int))))
 (fun (p:(List (List ((List UInt8)×Rat×Rat)))×(List (List ((List UInt8)×Rat×Rat))))=>match p with
 | (u,v) =>
 (some ((u,v)))))
 (fun (p:(List (List ((List UInt8)×Rat×Rat)))×(List (List ((List UInt8)×Rat×Rat))))=>match p with
 | (w,x) =>
 (bnd (chk .i64 (b+(1:Int))) fun y =>
 some (.inl ((w,x,y)))))))
 (some (.inr ((.inr ((g,h)))))))) Z9 (((List.replicate ((r.2.length:Int)).toNat (([]:(List ((List UInt8)×Rat×Rat))))),(List.replicate ((r.2.length:Int)).toNat (([]:(List ((List UInt8)×Rat×Rat))))),(0:Int))))
 (fun (p:(((List UInt8)×(List (List ((List UInt8)×Rat×Rat))))×((List UInt8)×(List (List ((List UInt8)×Rat×Rat))))×Bool) ⊕ ((List (List ((List UInt8)×Rat×Rat)))×(List (List ((List UInt8)×Rat×Rat)))))=>match p with
 | .inl ((z,A,B)) =>
 (some ((.inr ((z,A,B)))))
 | .inr ((C,D)) =>
 (some ((.inl ((C,D)))))))
 (fun (p:((List (List ((List UInt8)×Rat×Rat)))×(List (List ((List UInt8)×Rat×Rat)))) ⊕ (((List UInt8)×(List (List ((List UInt8)×Rat×Rat))))×((List UInt8)×(List (List ((List UInt8)×Rat×Rat))))×Bool))=>match p with
 | .inl ((E,F)) =>
 (some (((c.1,F),(d.1,E),true)))
 | .inr ((G,H,I)) =>
 (some ((G,H,I)))))))
set_option maxRecDepth 100000
abbrev RawI:=BS×(Int×Int)×(Int×Int)
abbrev RawR:=BS×List (List RawI)
def toI (x:RawI):IT:=(x.1,ZVc x.2.1,ZVc x.2.2)
def toL (l:List RawI):List IT:=l.map toI
def toRc (r:RawR):RCP:=(r.1,r.2.map toL)
theorem Zkr {α β:Type} (f:α→β) (z:β) (l:List α) {k:Nat} (h:k<l.length):(ZXa f z l k).set k z=ZXa f z l k:=by
 unfold ZXa;have e:l.length-k=(l.length-(k+1))+1:=by omega
 have hl:((l.take k).map f).length=k:=by simp;omega
 rw [e,List.replicate_succ];have:=ZHm ((l.take k).map f) (List.replicate (l.length-(k+1)) z) z z;rw [hl] at this;exact this
theorem Zqo {E R:Type} (bad:E→Prop) [DecidablePred bad] (g fin:Nat→R):∀ (l:List E) (s:Nat),(∃ k,Zfc (fun e s=>if bad e then .inl (g s) else .inr (s+1)) fin l s=g k)∨Zfc (fun e s=>if bad e then .inl (g s) else .inr (s+1)) fin l s=fin (s+l.length)
 | [],s=>.inr rfl
 | e :: l,s=>by
  unfold Zfc
  by_cases h:bad e
  ·rw [if_pos h];exact .inl ⟨s,rfl⟩
  ·rw [if_neg h]
   rcases Zqo bad g fin l (s+1) with h1 | h1
   ·exact .inl h1
   ·refine .inr (h1.trans ?_)
    rw [List.length_cons,show s+1+l.length=s+(l.length+1) by omega]
theorem Z6o (r:RawR):(∃ A B,Zhf r=some (A,B,false))∨Zhf r=some (toRc r,toRc r,true):=by
 unfold Zhf;rw [Zh];simp only;by_cases h8:(8:Int)<r.2.length
 ·rw [decide_eq_true h8,ZJ];exact .inl ⟨_,_,rfl⟩
 rw [decide_eq_false h8,ZI];have hm:mk 24 (r.2.length:Int) (r.2.length:Int)=some ():=by unfold mk;rw [if_pos ⟨by omega,by omega,by omega,by omega⟩]
 rw [hm];simp only [Zh,Int.toNat_natCast];have main:=Zqo (fun e:List RawI=>(20:Int)<e.length) (fun s=>(.inl ((r.1,ZXa toL [] r.2 s),(r.1,ZXa toL [] r.2 s),false):(RCP×RCP×Bool) ⊕ (List (List IT)×List (List IT)))) (fun s=>.inr (ZXa toL [] r.2 s,ZXa toL [] r.2 s)) r.2 0;rw [Nat.zero_add,Z9l] at main;rw [ZIl r.2 (fun s i=>(ZXa toL [] r.2 s,ZXa toL [] r.2 s,(i:Int))) (fun e s=>if (20:Int)<e.length then .inl (.inl ((r.1,ZXa toL [] r.2 s),(r.1,ZXa toL [] r.2 s),false)) else .inr (s+1)) (fun s=>.inr (ZXa toL [] r.2 s,ZXa toL [] r.2 s)) (fun i s=>s=i) (s0:=0) ?_ rfl (by omega) ?_ ?_ ?_]
 ·rcases main with ⟨k,e⟩ | e
  ·rw [e];exact .inl ⟨_,_,rfl⟩
  ·rw [e];exact .inr rfl
 ·unfold ZXa;simp
 ·rintro i s hi rfl;simp only;rw [decide_eq_true (by omega),ZJ,Zfa hi,Zh];by_cases h20:(20:Int)<r.2[s].length
  ·rw [decide_eq_true h20,ZJ,if_pos h20]
  rw [decide_eq_false h20,ZI,if_neg h20];have e1:=Zil toL [] r.2 hi;have e0:=Zkr toL [] r.2 hi;have pl:=ZSk toL [] r.2 (k:=s) (by omega);have hL:r.2[s].length≤20:=by omega
  refine ZAa (y:=(ZXa toL [] r.2 (s+1),ZXa toL [] r.2 (s+1))) (ZAa (y:=(ZXa toL [] r.2 (s+1),ZXa toL [] r.2 (s+1))) (Zpc (fun k=>((ZXa toL [] r.2 s).set s ((r.2[s].take k).map toI),(ZXa toL [] r.2 s).set s ((r.2[s].take k).map toI),(k:Int))) r.2[s].length ?_ (by omega) (fun k hk=>?_) ?_) rfl) ?_
  ·simp only [List.take_zero,List.map_nil,e0];rfl
  ·have hs:s<((ZXa toL [] r.2 s).set s ((r.2[s].take k).map toI)).length:=by rw [List.length_set,pl];exact hi
   have hg:((ZXa toL [] r.2 s).set s ((r.2[s].take k).map toI))[s]=(r.2[s].take k).map toI:=by rw [List.getElem_set_self]
   have hlen:((r.2[s].take k).map toI).length=k:=by simp;omega
   have r1:ZNa 128 ((r.2[s].take k).map toI)=some ():=by unfold ZNa;rw [if_pos (by omega)]
   have r2:∀ x,ZNa 128 ((r.2[s].take k).map toI++[x])=some ():=fun x=>by unfold ZNa;rw [if_pos (by rw [List.length_append,hlen,List.length_singleton];omega)]
   have e:=Zdg toI r.2[s] hk;simp only;rw [decide_eq_true (by omega),ZJ,Zfa hk,Zh,Zfa hs,hg];simp only [Zh,List.nil_append];unfold Zuf Zvf;rw [r1];simp only [Zh,r2,Int.toNat_natCast];rw [Zma (by omega) (by omega),Zh,e,List.set_set];rfl
  ·simp only;rw [decide_eq_false (by omega),ZI,List.take_length,← e1];rfl
  ·simp only;rw [Zma (by omega) (by omega),Zh];rfl
 ·rintro i s s' hi rfl hs;by_cases h20:(20:Int)<r.2[s].length
  ·simp only [h20,if_true] at hs;cases hs
  ·simp only [h20,if_false] at hs;cases hs;rfl
 ·rintro s rfl;simp only;rw [decide_eq_false (by omega),ZI]
structure SzRaw (r:RawR):Prop where
 nam:r.1.length≤maxLen
 it:∀ l ∈ r.2,∀ x ∈ l,x.1.length≤maxLen∧i64 x.2.1∧i64 x.2.2
theorem SzRaw.rc {r:RawR} (h:SzRaw r):SzRc 64 (toRc r):=⟨h.nam,fun l hl x hx=>by
 obtain ⟨l0,h0,rfl⟩:=List.mem_map.1 hl
 obtain ⟨x0,h1,rfl⟩:=List.mem_map.1 hx
 obtain ⟨a,b,c⟩:=h.it l0 h0 x0 h1
 exact ⟨a,ZMk b,ZMk c⟩⟩
end Go.Eng
namespace Go.Eng
open Go.RowKit
def Zkc {α:Type} (A:Rep α):Rep (Option (List α)) where
 n:=1
 agg:=false
 rel v cs x:=match x with
  | some l=>(Zu A).rel v cs l
  | none=>cs=[.slice none 0 0]
 len {v cs x} h:=by
  cases x with
  | some q=>exact (Zu A).len h
  | none=>have h:cs=_:=h;subst h;rfl
 mono {v v' cs x} hv h:=by
  cases x with
  | some q=>exact (Zu A).mono hv h
  | none=>exact h
 flat {v cs x} h:=by
  cases x with
  | some q=>exact (Zu A).flat h
  | none=>have h:cs=_:=h;subst h;rfl
theorem ZVn {α:Type} (A:Rep α) (v:Zb):(Zkc A).rel v [.slice none 0 0] none:=rfl
def coR {α:Type} (x:Option (List α)):Option (List α):=some (x.getD [])
theorem co_rRow {α:Type} {A:Rep α}:Co (Zkc A) (Zu A) coR:=⟨rfl,fun v c x y h e=>by
 cases x with
 | some l=>cases e;exact h
 | none =>
  have h:c=_:=h
  cases e;subst h;exact ZXc A v⟩
def Zbg {α:Type} (l:List (Option α)) (j:Int):Option Unit:=if 0≤j then (match l[j.toNat]? with | some none=>some () | _=>none) else none
theorem Zvc {α:Type} {l:List (Option α)} {j:Int} {u:Unit} (h:Zbg l j=some u):0≤j∧j<l.length∧j.toNat<l.length∧l[j.toNat]? = some none:=by
 unfold Zbg at h;split at h
 ·rename_i hh;split at h
  ·rename_i he;have:=(List.getElem?_eq_some_iff.1 he).1;exact ⟨hh,by omega,this,he⟩
  ·cases h
 ·cases h
theorem Zsq {α:Type} {A:Rep α} {v:Zb} {C:List Value} {M:List (Option (List α))} {j:Int} {u:Unit} (hr:Rep.rels (Zkc A) v C M) (h:Zbg M j=some u) :
  C=List.take (0+j.toNat*1) C++[Value.slice (mkA none) (0) 0]++List.drop (0+j.toNat*1+1) C:=by
 obtain ⟨_,_,h1,h2⟩:=Zvc h;have hg:(Zkc A).rel v ((C.drop (j.toNat*(Zkc A).n)).take (Zkc A).n) none:=ZCa hr h2;have hg:(C.drop (j.toNat*1)).take 1=[.slice none 0 0]:=hg;rw [Nat.zero_add];have e1:=List.take_append_drop (j.toNat*1) C;have e2:=List.take_append_drop 1 (C.drop (j.toNat*1));rw [hg,List.drop_drop] at e2;rw [← e2] at e1;rw [List.append_assoc];exact e1.symm
section
variable {P:Program} {K:Nat} {w0:Base} {v0:Zb} {σ:List (Nat×Value)} {ℓ:List Loc} {v:Zb} {a:Act} {w:World}
theorem ZBi (hS:St K w0 v0 σ ℓ v a w) {i n cap b k:Nat} {T:TypeId} {C:List Value} {x:Value} (hj:ℓ[i]? = some (.own (some b) T 1 n cap (List.take (0+k*1) C++[x]++List.drop (0+k*1+1) C))) (hk:k<C.length):WAt w b (0+k*1) [x]:=by
 have h1:(List.take (0+k*1) C).length=0+k*1:=by rw [List.length_take];omega
 have:=ZMn hS hj (0+k*1) 1 (by simp;omega)
 rwa [List.append_assoc,List.drop_append_of_le_length (by omega),List.drop_of_length_le (by omega)] at this
theorem ZAp (hS:St K w0 v0 σ ℓ v a w) {t T:TypeId} {m cap b i k:Nat} {z x:Value} {C:List Value} (ht:Sized P t 1 false) (hi:ℓ[i]? = some (.own (some b) T 1 m cap (List.take (0+k*1) C++[x]++List.drop (0+k*1+1) C))) (hk:k<C.length) (hp:Z0a z=true) :
  ∃ w',(∀ {d:Option Nat} {ty:TypeId} {pos:String} {aft:Array Edge} {g:Option (Nat×Bool)} {x y:Operand},ev σ x=some (.pointer (some ⟨b,0+k*1,none⟩))→ev σ y=some z→(execOp a.eval ⟨d,.store t x y,ty,pos,aft,g⟩).run P w = .ok .skip w') ∧
   St K w0 v0 σ (ℓ.set i (.own (some b) T 1 m cap (List.take (0+k*1) C++[z]++List.drop (0+k*1+1) C))) v a w':=by
 have h1:(List.take (0+k*1) C).length=0+k*1:=by rw [List.length_take];omega
 obtain ⟨w',hr,hS'⟩:=ZFb hS (off:=0+k*1) (z:=z) (cs:=[z]) ht (ZCb hp) rfl hi (by simp;omega) (by simp [hp]);refine ⟨w',hr,?_⟩;have e1:List.take (0+k*1) (List.take (0+k*1) C++[x]++List.drop (0+k*1+1) C)=List.take (0+k*1) C:=by
  rw [List.append_assoc,List.take_append_of_le_length (by omega),List.take_of_length_le (by omega)]
 have e2:List.drop (0+k*1+[z].length) (List.take (0+k*1) C++[x]++List.drop (0+k*1+1) C)=List.drop (0+k*1+1) C:=by
  rw [List.drop_append,List.drop_of_length_le (by simp;omega)];simp only [List.length_append,List.length_singleton,h1,List.nil_append,Nat.sub_self,List.drop_zero]
 rw [e1,e2] at hS';exact hS'
theorem ZPh {α:Type} {A:Rep α} {C:List Value} {M:List (Option (List α))} {k:Nat} (hr:Rep.rels (Zkc A) v C M) (hk:k<M.length):k<C.length:=by
 have:=Ztg hr;have e:(Zkc A).n=1:=rfl;rw [e] at this;omega
end
noncomputable def ZXe (r:((List UInt8)×(List (List ((List UInt8)×Rat×Rat))))):Option ((List Rat)×Rat×Int) :=
 bnd (Znf ((r.1,r.2))) fun e =>
 ifb (e != (0:Int))
 (some ((([]:(List Rat)),(0:Rat),e)))
 (bnd (bnd (Z0 (fun s:(List Rat)×Rat×Int=>match s with
 | (a,f,b) =>
 (ifb (decide (b<(r.2.length:Int)))
 (bnd (idx r.2 b) fun g =>
 bnd (bnd (Z0 (fun s:Rat×Int=>match s with
 | (h,c) =>
 (ifb (decide (c<(g.length:Int)))
 (bnd (idx g c) fun i =>
 bnd (ZRc h i.2.1) fun j =>
 bnd (chk .i64 (c+(1:Int))) fun k =>
 some (.inl ((j,k))))
 (some (.inr h)))) Z9 (((0:Rat),(0:Int))))
 (fun (l:Rat) =>
 (some l)))
 (fun (d:Rat) =>
 (bnd (ZNa 56 (a++[d])) fun v =>
 bnd (ZRc f d) fun m =>
 bnd (chk .i64 (b+(1:Int))) fun n =>
 some (.inl (((a++[d]),m,n))))))
 (some (.inr ((a,f)))))) Z9 ((([]:(List Rat)),(0:Rat),(0:Int))))
 (fun (p:(List Rat)×Rat)=>match p with
 | (o,q) =>
 (some ((o,q)))))
 (fun (p:(List Rat)×Rat)=>match p with
 | (t,u) =>
 (some ((t,u,(0:Int))))))
noncomputable def Zsf (r:((List UInt8)×(List (List ((List UInt8)×Rat×Rat))))):Option ((List Rat)×Rat×Int) :=
 bnd (Zgf ((r.1,r.2))) fun e =>
 ifb (e != (0:Int))
 (bnd (Zzc (0:Int)) fun h =>
 some ((([]:(List Rat)),h,e)))
 (bnd (bnd (mk 56 ((r.2.length:Int)) ((r.2.length:Int))) fun G =>
 bnd (Zzc (0:Int)) fun i =>
 some (((List.replicate ((r.2.length:Int)).toNat ((none:Option Rat))),i)))
 (fun (p:(List (Option Rat))×Rat)=>match p with
 | (j,k) =>
 (bnd (bnd (Z0 (fun s:(List (Option Rat))×Rat×Int=>match s with
 | (c,f,a) =>
 (ifb (decide (a<(r.2.length:Int)))
 (bnd (Zzc (0:Int)) fun l =>
 bnd (idx c a) fun H =>
 bnd (bnd (Z0 (fun s:(List (Option Rat))×Int=>match s with
 | (b,d) =>
 (bnd (idx r.2 a) fun m =>
 ifb (decide (d<(m.length:Int)))
 (bnd (idx b a) fun n =>
 bnd (idx r.2 a) fun o =>
 bnd (idx o d) fun q =>
 bnd (coQ n) fun t =>
 bnd (ZDd t q.2.1) fun u =>
 bnd (idx b a) fun I =>
 bnd (chk .i64 (d+(1:Int))) fun v =>
 some (.inl (((b.set (a).toNat ((some u))),v))))
 (some (.inr b)))) Z9 (((c.set (a).toNat ((some l))),(0:Int))))
 (fun (w:(List (Option Rat))) =>
 (some w)))
 (fun (g:(List (Option Rat))) =>
 (bnd (idx g a) fun x =>
 bnd (coQ x) fun y =>
 bnd (ZDd f y) fun z =>
 bnd (chk .i64 (a+(1:Int))) fun A =>
 some (.inl ((g,z,A))))))
 (some (.inr ((c,f)))))) Z9 ((j,k,(0:Int))))
 (fun (p:(List (Option Rat))×Rat)=>match p with
 | (B,C) =>
 (some ((B,C)))))
 (fun (p:(List (Option Rat))×Rat)=>match p with
 | (D,E) =>
 (bnd (mapO coQ D) fun F =>
 some ((F,E,(0:Int))))))))
noncomputable def ZDg (r:((List UInt8)×(List (List ((List UInt8)×Rat×Rat))))) (total:Rat):Option (((List UInt8)×(List (List ((List UInt8)×Rat×Rat))))×Int) :=
 bnd (ZXe ((r.1,r.2))) fun c =>
 ifb (c.2.2 != (0:Int))
 (some (((([]:List UInt8),([]:(List (List ((List UInt8)×Rat×Rat))))),c.2.2)))
 (bnd (Zfd total) fun n =>
 ifb (decide (n≤(0:Int)))
 (some (((([]:List UInt8),([]:(List (List ((List UInt8)×Rat×Rat))))),(1:Int))))
 (bnd (ZPd total c.2.1) fun g =>
 bnd (bnd (Z0 (fun s:((List UInt8)×(List (List ((List UInt8)×Rat×Rat))))×Int=>match s with
 | (a,d) =>
 (ifb (decide (d<(r.2.length:Int)))
 (bnd (idx r.2 d) fun h =>
 bnd (bnd (Z0 (fun s:(List ((List UInt8)×Rat×Rat))×Int=>match s with
 | (e,f) =>
 (ifb (decide (f<(h.length:Int)))
 (bnd (idx h f) fun b =>
 bnd (ZJd b.2.1 g.1) fun i =>
 bnd (ZJd b.2.2 g.1) fun j =>
 bnd (ZNa 128 (e++[(b.1,i,j)])) fun t =>
 bnd (chk .i64 (f+(1:Int))) fun o =>
 some (.inl (((e++[(b.1,i,j)]),o))))
 (some (.inr e)))) Z9 ((([]:(List ((List UInt8)×Rat×Rat))),(0:Int))))
 (fun (p:(List ((List UInt8)×Rat×Rat))) =>
 (some p)))
 (fun (k:(List ((List UInt8)×Rat×Rat))) =>
 (bnd (ZNa 24 (a.2++[k])) fun u =>
 bnd (chk .i64 (d+(1:Int))) fun q =>
 some (.inl (((a.1,(a.2++[k])),q))))))
 (some (.inr ((a.1,a.2)))))) Z9 (((r.1,([]:List (List ((List UInt8)×Rat×Rat)))),(0:Int))))
 (fun (l:((List UInt8)×(List (List ((List UInt8)×Rat×Rat))))) =>
 (some ((l.1,l.2)))))
 (fun (m:((List UInt8)×(List (List ((List UInt8)×Rat×Rat))))) =>
 (some (((m.1,m.2),(0:Int)))))))
noncomputable def Z9f (r:((List UInt8)×(List (List ((List UInt8)×Rat×Rat))))) (total:Rat):Option (((List UInt8)×(List (List ((List UInt8)×Rat×Rat))))×Int) :=
 bnd (Zsf ((r.1,r.2))) fun d =>
 ifb (d.2.2 != (0:Int))
 (some (((([]:List UInt8),([]:(List (List ((List UInt8)×Rat×Rat))))),d.2.2)))
 (bnd (ZMe total) fun o =>
 ifb (decide (o≤(0:Int)))
 (some (((([]:List UInt8),([]:(List (List ((List UInt8)×Rat×Rat))))),(1:Int))))
 (bnd (ZWe total d.2.1) fun g =>
 bnd (bnd (mk 24 ((r.2.length:Int)) ((r.2.length:Int))) fun w =>
 some ((r.1,(List.replicate ((r.2.length:Int)).toNat ((none:(Option (List ((List UInt8)×Rat×Rat)))))))))
 (fun (h:((List UInt8)×(List (Option (List ((List UInt8)×Rat×Rat)))))) =>
 (bnd (bnd (Z0 (fun s:((List UInt8)×(List (Option (List ((List UInt8)×Rat×Rat)))))×Int=>match s with
 | (b,a) =>
 (ifb (decide (a<(r.2.length:Int)))
 (bnd (bnd (Zbg b.2 a) fun x =>
 bnd (Z0 (fun s:(List ((List UInt8)×Rat×Rat))×Int=>match s with
 | (e,f) =>
 (bnd (idx r.2 a) fun p =>
 ifb (decide (f<(p.length:Int)))
 (bnd (idx r.2 a) fun q =>
 bnd (idx q f) fun c =>
 bnd (Z6e c.2.1 g) fun i =>
 bnd (Z6e c.2.2 g) fun j =>
 bnd (ZNa 128 (e++[(c.1,i,j)])) fun y =>
 bnd (chk .i64 (f+(1:Int))) fun t =>
 some (.inl (((e++[(c.1,i,j)]),t))))
 (some (.inr ((b.1,(b.2.set (a).toNat (some e)))))))) Z9 ((([]:List ((List UInt8)×Rat×Rat)),(0:Int))))
 (fun (k:((List UInt8)×(List (Option (List ((List UInt8)×Rat×Rat)))))) =>
 (some ((k.1,k.2)))))
 (fun (l:((List UInt8)×(List (Option (List ((List UInt8)×Rat×Rat)))))) =>
 (bnd (chk .i64 (a+(1:Int))) fun u =>
 some (.inl (((l.1,l.2),u))))))
 (some (.inr ((b.1,b.2)))))) Z9 (((h.1,h.2),(0:Int))))
 (fun (m:((List UInt8)×(List (Option (List ((List UInt8)×Rat×Rat)))))) =>
 (some ((m.1,m.2)))))
 (fun (n:((List UInt8)×(List (Option (List ((List UInt8)×Rat×Rat)))))) =>
 (bnd (mapO coR n.2) fun v =>
 some (((n.1,v),(0:Int)))))))))
set_option maxRecDepth 100000
def itF {S:Type} (f:Nat→S→S) (s:S):Nat→S
 | 0=>s
 | k+1=>f k (itF f s k)
theorem Z0f {S:Type} {f:Nat→S→S} {s:S} (I:Nat→S→Prop) (n:Nat) (h0:I 0 s) (h:∀ k x,k<n→I k x→I (k+1) (f k x)):∀ k,k≤n→I k (itF f s k)
 | 0,_=>h0
 | k+1,hk=>h k _ (by omega) (Z0f I n h0 h k (by omega))
theorem ZKf:sz 1 (0:Rat):=by constructor <;> decide
theorem Zdf {l:List IT} {k:Nat} (h:k<l.length):gI l k ∈ l:=by unfold gI;rw [ZEb h];exact List.getElem_mem h
theorem gS_mem {l:List (List IT)} {k:Nat} (h:k<l.length):gS l k ∈ l:=by unfold gS;rw [ZEb h];exact List.getElem_mem h
theorem ZFg {l:List IT} {k:Nat} (h:k<l.length):idx l (k:Int)=some (gI l k):=by unfold gI;rw [ZEb h];exact Zfa h
theorem Zyf {l:List (List IT)} {k:Nat} (h:k<l.length):idx l (k:Int)=some (gS l k):=by unfold gS;rw [ZEb h];exact Zfa h
def smL (l:List IT):Nat→Rat:=itF (fun k s=>s+(gI l k).2.1) 0
def stS (l:List IT):Rat:=smL l l.length
def tot (l:List (List IT)):Nat→Rat:=itF (fun k s=>s+stS (gS l k)) 0
def ZPc (r:RCP):List Rat×Rat×Int:=if Z7a r≠0 then ([],0,Z7a r) else (r.2.map stS,tot r.2 r.2.length,0)
theorem Zie {r:RCP} (h:Z7a r=0):r.2.length≤6:=by
 unfold Z7a at h;by_cases h1:ZBd r.1=false
 ·rw [if_pos h1] at h;exact absurd h (by decide)
 rw [if_neg h1] at h;by_cases h2:r.2.length<1∨6<r.2.length
 ·rw [if_pos h2] at h;exact absurd h (by decide)
 ·omega
def SzL (B:Nat) (l:List IT):Prop:=∀ x ∈ l,x.1.length≤maxLen∧sz B x.2.1∧sz B x.2.2
theorem Zel {B:Nat} {l:List IT} (h:SzL B l):∀ k,k≤l.length→sz ((B+1)*k+1) (smL l k) :=
 Z0f (fun k s=>sz ((B+1)*k+1) s) l.length ZKf fun k x hk hx=>(Z4j hx (h _ (Zdf hk)).2.1).mono (by have:=Nat.mul_add_one (B+1) k;omega)
theorem Zzj {B:Nat} {l:List IT} (h:SzL B l) (hl:l.length≤16):sz ((B+1)*16+1) (stS l):=(Zel h _ (Nat.le_refl _)).mono (by have:=Nat.mul_le_mul_left (B+1) hl;omega)
section
variable {B:Nat} {r:RCP} (h:SzRc B r) (h0:Z7a r=0)
include h h0
theorem Zje {i:Nat} (hi:i<r.2.length):SzL B (gS r.2 i)∧(gS r.2 i).length≤16:=⟨h.it _ (gS_mem hi),Z8q h0 hi⟩
theorem ZEg:∀ k,k≤r.2.length→sz (((B+1)*16+2)*k+1) (tot r.2 k) :=
 Z0f (fun k s=>sz (((B+1)*16+2)*k+1) s) r.2.length ZKf fun k x hk hx=>by
  have:=Zje h h0 hk
  exact (Z4j hx (Zzj this.1 this.2)).mono (by have:=Nat.mul_add_one ((B+1)*16+2) k;omega)
end
theorem Zqm {r:RCP} (h:SzRc 7000 r):ZXe r=some (ZPc r):=by
 unfold ZXe ZPc;rw [ZSl h,Zh];by_cases c0:Z7a r≠0
 ·have:(Z7a r != 0)=true:=by simpa using c0
  rw [this,ZJ,if_pos c0]
 have:(Z7a r != 0)=false:=by simpa using c0
 rw [this,ZI,if_neg c0];have c0:=Decidable.not_not.1 c0;have n6:=Zie c0;refine ZAa (y:=(r.2.map stS,tot r.2 r.2.length)) (ZAa (y:=(r.2.map stS,tot r.2 r.2.length)) (Zpc (fun k=>((r.2.take k).map stS,tot r.2 k,(k:Int))) r.2.length rfl (by omega) (fun k hk=>?_) ?_) rfl) rfl
 ·obtain ⟨hz,h16⟩:=Zje h c0 hk;have e:=Zdg stS r.2 hk;have hq:((r.2.take k).map stS).length=k:=by simp;omega
  simp only;rw [decide_eq_true (by omega),ZJ,Zyf hk,Zh,e];have eg:gS r.2 k=r.2[k]:=by unfold gS;rw [ZEb hk]
  rw [← eg];have zt:=ZEg h c0 k (by omega);have et:tot r.2 (k+1)=tot r.2 k+stS (gS r.2 k):=rfl;rw [et];generalize gS r.2 k=l at hz h16;refine ZAa (y:=stS l) (ZAa (y:=stS l) (Zpc (fun j=>(smL l j,(j:Int))) l.length rfl (by omega) (fun j hj=>?_) ?_) rfl) ?_
  ·simp only;rw [decide_eq_true (by omega),ZJ,ZFg hj,Zh,ZXi (Zel hz j (by omega)) (hz _ (Zdf hj)).2.1 (by omega),Zh,Zma (by omega) (by omega),Zh];rfl
  ·simp only;rw [decide_eq_false (by omega),ZI];rfl
  ·skip
   rw [show ZNa 56 ((r.2.take k).map stS++[stS l])=some () by unfold ZNa;rw [if_pos (by rw [List.length_append,hq,List.length_singleton];omega)],Zh,ZXi zt (Zzj hz h16) (by omega),Zh,Zma (by omega) (by omega),Zh];rfl
 ·simp only;rw [decide_eq_false (by omega),ZI,List.take_length]
theorem Zrm {r:RCP} (h:SzRc 7000 r):Zsf r=some (ZPc r):=by
 unfold Zsf ZPc;have q0:Zzc (0:Int)=some 0:=rfl;rw [Zql h,Zh,q0];by_cases c0:Z7a r≠0
 ·have:(Z7a r != 0)=true:=by simpa using c0
  rw [this,ZJ,if_pos c0,Zh]
 have:(Z7a r != 0)=false:=by simpa using c0
 rw [this,ZI,if_neg c0];have c0:=Decidable.not_not.1 c0;have n6:=Zie c0;rw [show mk 56 (r.2.length:Int) (r.2.length:Int)=some () by unfold mk;rw [if_pos ⟨by omega,by omega,by omega,by omega⟩]];simp only [Zh,Int.toNat_natCast];refine ZAa (y:=(r.2.map fun l=>some (stS l),tot r.2 r.2.length)) (ZAa (y:=(r.2.map fun l=>some (stS l),tot r.2 r.2.length)) (Zpc (fun k=>(ZXa (fun l=>some (stS l)) none r.2 k,tot r.2 k,(k:Int))) r.2.length ?_ (by omega) (fun k hk=>?_) ?_) rfl) ?_
 ·unfold ZXa;simp;rfl
 ·obtain ⟨hz,h16⟩:=Zje h c0 hk;have eg:gS r.2 k=r.2[k]:=by unfold gS;rw [ZEb hk]
  have e:=Zil (fun l=>some (stS l)) none r.2 hk;rw [← eg] at e;have pl:=ZSk (fun l=>some (stS l)) none r.2 (k:=k) (by omega);have zt:=ZEg h c0 k (by omega);have et:tot r.2 (k+1)=tot r.2 k+stS (gS r.2 k):=rfl;simp only;rw [decide_eq_true (by omega),ZJ,Zfa (by omega),Zh,et];refine ZAa (y:=ZXa (fun l=>some (stS l)) none r.2 (k+1)) (ZAa (y:=ZXa (fun l=>some (stS l)) none r.2 (k+1)) (Zpc (fun j=>((ZXa (fun l=>some (stS l)) none r.2 k).set k (some (smL (gS r.2 k) j)),(j:Int))) (gS r.2 k).length rfl (by omega) (fun j hj=>?_) ?_) rfl) ?_
  ·have hs:k<((ZXa (fun l=>some (stS l)) none r.2 k).set k (some (smL (gS r.2 k) j))).length:=by rw [List.length_set,pl];exact hk
   simp only;rw [Zyf hk,Zh,decide_eq_true (by omega),ZJ,Zfa hs,Zh,Zh,ZFg hj,Zh];simp only [List.getElem_set_self,coQ,Zh,Int.toNat_natCast,List.set_set];rw [ZLj (Zel hz j (by omega)) (hz _ (Zdf hj)).2.1 (by omega),Zh,Zma (by omega) (by omega),Zh];rfl
  ·simp only;rw [Zyf hk,Zh,decide_eq_false (by omega),ZI,← e];rfl
  ·have hs:k<(ZXa (fun l=>some (stS l)) none r.2 (k+1)).length:=by rw [ZSk _ _ _ (by omega)];exact hk
   have hg:(ZXa (fun l=>some (stS l)) none r.2 (k+1))[k]=some (stS (gS r.2 k)):=by simp only [← e,List.getElem_set_self]
   skip
   rw [Zfa hs,Zh,hg];simp only [coQ,Zh];rw [ZLj zt (Zzj hz h16) (by omega),Zh,Zma (by omega) (by omega),Zh];rfl
 ·simp only;rw [decide_eq_false (by omega),ZI,Z9l]
 ·simp only;rw [ZLk coQ (fun l=>some (stS l)) stS (fun x=>rfl),Zh]
def scI (f:Rat) (x:IT):IT:=(x.1,x.2.1*f,x.2.2*f)
def Zwe (r:RCP) (t:Rat):RCP×Int:=if Z7a r≠0 then (([],[]),Z7a r) else if t≤0 then (([],[]),1) else ((r.1,r.2.map fun l=>l.map (scI (t / tot r.2 r.2.length))),0)
theorem Zns {k m:Nat} {x y:Rat} (h:sz k x) (h':sz m y) (hk:k+m≤1000000000):∃ e,ZPd x y=some (x / y,e):=by
 unfold ZPd;rw [if_pos ⟨h.ok (by omega),h'.ok (by omega)⟩];by_cases h0:y=0
 ·rw [if_pos h0,h0];exact ⟨3,by rw [show x / 0=0 by grind]⟩
 ·rw [if_neg h0];exact ⟨0,rfl⟩
theorem rby_any {k m:Nat} {x y:Rat} (h:sz k x) (h':sz m y) (hk:k+m≤1000000000):ZWe x y=some (x / y):=by
 unfold ZWe;rw [if_pos ⟨h.sm (by omega),h'.sm (by omega)⟩];by_cases h0:y=0
 ·rw [if_pos h0,h0,show x / 0=0 by grind]
 ·rw [if_neg h0]
theorem ZMo {r:RCP} (h:SzRc 7000 r) {t:Rat} (ht:sz 64 t):ZDg r t=some (Zwe r t):=by
 unfold ZDg Zwe;rw [show ZXe (r.1,r.2)=some (ZPc r) from Zqm h,Zh];unfold ZPc;by_cases c0:Z7a r≠0
 ·have:(Z7a r != 0)=true:=by simpa using c0
  rw [if_pos c0];simp only;rw [this,ZJ,if_pos c0]
 rw [if_neg c0];simp only [bne_self_eq_false,ZI];rw [if_neg c0,sg,Zh,np_d];have c0:=Decidable.not_not.1 c0;have n6:=Zie c0;by_cases t0:t≤0
 ·rw [decide_eq_true t0,ZJ,if_pos t0]
 rw [decide_eq_false t0,ZI,if_neg t0];have zt:=ZEg h c0 _ (Nat.le_refl _);obtain ⟨e0,he⟩:=Zns ht zt (by omega);have zf:=Zmh ht zt;rw [he,Zh];simp only;generalize t / tot r.2 r.2.length=f at zf;refine ZAa (y:=(r.1,r.2.map fun l=>l.map (scI f))) (ZAa (y:=(r.1,r.2.map fun l=>l.map (scI f))) (Zpc (fun k=>((r.1,(r.2.take k).map fun l=>l.map (scI f)),(k:Int))) r.2.length rfl (by omega) (fun k hk=>?_) ?_) rfl) rfl
 ·obtain ⟨hz,h16⟩:=Zje h c0 hk;have eg:gS r.2 k=r.2[k]:=by unfold gS;rw [ZEb hk]
  have e:=Zdg (fun l:List IT=>l.map (scI f)) r.2 hk;have hq:((r.2.take k).map fun l:List IT=>l.map (scI f)).length=k:=by simp;omega
  simp only;rw [decide_eq_true (by omega),ZJ,Zyf hk,Zh,e,← eg];generalize gS r.2 k=l at hz h16;refine ZAa (y:=l.map (scI f)) (ZAa (y:=l.map (scI f)) (Zpc (fun j=>((l.take j).map (scI f),(j:Int))) l.length rfl (by omega) (fun j hj=>?_) ?_) rfl) ?_
  ·have e2:=Zdg (scI f) l hj;have hq2:((l.take j).map (scI f)).length=j:=by simp;omega
   have eg2:gI l j=l[j]:=by unfold gI;rw [ZEb hj]
   have z:=hz _ (Zdf hj);simp only;rw [decide_eq_true (by omega),ZJ,ZFg hj,Zh,Zhl z.2.1 zf (by omega),Zh,Zhl z.2.2 zf (by omega),Zh,
    show ∀ x,ZNa 128 ((l.take j).map (scI f)++[x])=some () from fun x=>by unfold ZNa;rw [if_pos (by rw [List.length_append,hq2,List.length_singleton];omega)],Zh,Zma (by omega) (by omega),Zh,e2,← eg2]
   rfl
  ·simp only;rw [decide_eq_false (by omega),ZI,List.take_length]
  ·skip
   rw [show ∀ x,ZNa 24 (((r.2.take k).map fun l:List IT=>l.map (scI f))++[x])=some () from fun x=>by unfold ZNa;rw [if_pos (by rw [List.length_append,hq,List.length_singleton];omega)],Zh,Zma (by omega) (by omega),Zh];rfl
 ·simp only;rw [decide_eq_false (by omega),ZI,List.take_length]
theorem ZUo {α:Type} {l:List (Option α)} {k:Nat} (h:l[k]? = some none):Zbg l (k:Int)=some ():=by
 unfold Zbg;rw [if_pos (by omega),Int.toNat_natCast,h]
theorem Zap {r:RCP} (h:SzRc 7000 r) {t:Rat} (ht:sz 64 t):Z9f r t=some (Zwe r t):=by
 unfold Z9f Zwe;rw [show Zsf (r.1,r.2)=some (ZPc r) from Zrm h,Zh];unfold ZPc;by_cases c0:Z7a r≠0
 ·have:(Z7a r != 0)=true:=by simpa using c0
  rw [if_pos c0];simp only;rw [this,ZJ,if_pos c0]
 rw [if_neg c0];simp only [bne_self_eq_false,ZI];rw [if_neg c0,rsg,Zh,np_d];have c0:=Decidable.not_not.1 c0;have n6:=Zie c0;by_cases t0:t≤0
 ·rw [decide_eq_true t0,ZJ,if_pos t0]
 rw [decide_eq_false t0,ZI,if_neg t0];have zt:=ZEg h c0 _ (Nat.le_refl _);have zf:=Zmh ht zt;rw [rby_any ht zt (by omega),Zh];generalize t / tot r.2 r.2.length=f at zf;rw [show mk 24 (r.2.length:Int) (r.2.length:Int)=some () by unfold mk;rw [if_pos ⟨by omega,by omega,by omega,by omega⟩]];simp only [Zh,Int.toNat_natCast];have hp:∀ k,k<r.2.length→(ZXa (fun l:List IT=>some (l.map (scI f))) none r.2 k)[k]? = some none:=fun k hk=>by
  have hl:((r.2.take k).map fun l:List IT=>some (l.map (scI f))).length=k:=by simp;omega
  unfold ZXa;rw [List.getElem?_append_right (by omega),hl,Nat.sub_self,List.getElem?_replicate_of_lt (by omega)]
 refine ZAa (y:=(r.1,r.2.map fun l=>some (l.map (scI f)))) (ZAa (y:=(r.1,r.2.map fun l=>some (l.map (scI f)))) (Zpc (fun k=>((r.1,ZXa (fun l:List IT=>some (l.map (scI f))) none r.2 k),(k:Int))) r.2.length ?_ (by omega) (fun k hk=>?_) ?_) rfl) ?_
 ·unfold ZXa;simp
 ·obtain ⟨hz,h16⟩:=Zje h c0 hk;have eg:gS r.2 k=r.2[k]:=by unfold gS;rw [ZEb hk]
  have e:=Zil (fun l:List IT=>some (l.map (scI f))) none r.2 hk;have ei:=Zyf hk;rw [← eg] at e;generalize gS r.2 k=L at hz h16 eg ei e;simp only;rw [decide_eq_true (by omega),ZJ,ZUo (hp k hk),Zh];refine ZAa (y:=(r.1,ZXa (fun l:List IT=>some (l.map (scI f))) none r.2 (k+1))) (ZAa (y:=(r.1,ZXa (fun l:List IT=>some (l.map (scI f))) none r.2 (k+1))) (Zpc (fun j=>((L.take j).map (scI f),(j:Int))) L.length rfl (by omega) (fun j hj=>?_) ?_) rfl) ?_
  ·have e2:=Zdg (scI f) L hj;have hq2:((L.take j).map (scI f)).length=j:=by simp;omega
   have eg2:gI L j=L[j]:=by unfold gI;rw [ZEb hj]
   have z:=hz _ (Zdf hj);simp only;rw [ei,Zh,decide_eq_true (by omega),ZJ,Zh,ZFg hj,Zh,Zol z.2.1 zf (by omega),Zh,Zol z.2.2 zf (by omega),Zh,
    show ∀ x,ZNa 128 ((L.take j).map (scI f)++[x])=some () from fun x=>by unfold ZNa;rw [if_pos (by rw [List.length_append,hq2,List.length_singleton];omega)],Zh,Zma (by omega) (by omega),Zh,e2,← eg2]
   rfl
  ·simp only;rw [ei,Zh,decide_eq_false (by omega),ZI,List.take_length,Int.toNat_natCast,← e]
  ·simp only;rw [Zma (by omega) (by omega),Zh];rfl
 ·simp only;rw [decide_eq_false (by omega),ZI,Z9l]
 ·simp only;rw [ZLk coR (fun l:List IT=>some (l.map (scI f))) (fun l=>l.map (scI f)) (fun x=>rfl),Zh]
noncomputable def ZDi (y:((List UInt8)×Rat)) (x:((List UInt8)×Rat×Rat)):Option (Bool) :=
 some (y.1==x.1)
noncomputable def Zzi (l:(List ((List UInt8)×Rat))) (g:((List UInt8)×Rat×Rat)):Option (Int) :=
 bnd (bnd (Z0 (fun s:Int=>match s with
 | a =>
 (ifb (decide (a<(l.length:Int)))
 (bnd (idx l a) fun b =>
 bnd (ZDi ((b.1,b.2)) ((g.1,g.2.1,g.2.2))) fun c =>
 ifb (c)
 (some (.inr ((.inl a))))
 (bnd (chk .i64 (a+(1:Int))) fun d =>
 some (.inl d)))
 (some (.inr ((.inr (()))))))) Z9 (0:Int))
 (fun (p:(Int) ⊕ (Unit))=>match p with
 | .inl e =>
 (some ((.inr e)))
 | .inr (()) =>
 (some ((.inl (()))))))
 (fun (p:(Unit) ⊕ (Int))=>match p with
 | .inl (()) =>
 (some (-1:Int))
 | .inr f =>
 (some f))
noncomputable def Z7f (r:((List UInt8)×(List (List ((List UInt8)×Rat×Rat))))):Option ((List ((List UInt8)×Rat))) :=
 bnd (bnd (Z0 (fun s:(List ((List UInt8)×Rat))×Int=>match s with
 | (f,d) =>
 (ifb (decide (d<(r.2.length:Int)))
 (bnd (idx r.2 d) fun g =>
 bnd (bnd (Z0 (fun s:(List ((List UInt8)×Rat))×Int=>match s with
 | (b,e) =>
 (ifb (decide (e<(g.length:Int)))
 (bnd (bnd (idx g e) fun a =>
 bnd (Zzi b ((a.1,a.2.1,a.2.2))) fun c =>
 ifb (decide (c<(0:Int)))
 (bnd (ZNa 72 (b++[(a.1,a.2.1)])) fun t =>
 some ((b++[(a.1,a.2.1)])))
 (bnd (idx b c) fun h =>
 bnd (ZRc h.2 a.2.1) fun i =>
 bnd (idx b c) fun j =>
 some ((b.set (c).toNat ((j.1,i))))))
 (fun (k:(List ((List UInt8)×Rat))) =>
 (bnd (chk .i64 (e+(1:Int))) fun l =>
 some (.inl ((k,l))))))
 (some (.inr b)))) Z9 ((f,(0:Int))))
 (fun (m:(List ((List UInt8)×Rat))) =>
 (some m)))
 (fun (n:(List ((List UInt8)×Rat))) =>
 (bnd (chk .i64 (d+(1:Int))) fun o =>
 some (.inl ((n,o))))))
 (some (.inr f)))) Z9 ((([]:(List ((List UInt8)×Rat))),(0:Int))))
 (fun (p:(List ((List UInt8)×Rat))) =>
 (some p)))
 (fun (q:(List ((List UInt8)×Rat))) =>
 (some q))
noncomputable def Z9i (y:((List UInt8)×Rat)) (x:(List UInt8)):Option (Bool) :=
 some (y.1==x)
noncomputable def Z3h (l:(List ((List UInt8)×Rat))) (g:(List UInt8)):Option (Int) :=
 bnd (bnd (Z0 (fun s:Int=>match s with
 | a =>
 (ifb (decide (a<(l.length:Int)))
 (bnd (idx l a) fun b =>
 bnd (Z9i ((b.1,b.2)) g) fun c =>
 ifb (c)
 (some (.inr ((.inl a))))
 (bnd (chk .i64 (a+(1:Int))) fun d =>
 some (.inl d)))
 (some (.inr ((.inr (()))))))) Z9 (0:Int))
 (fun (p:(Int) ⊕ (Unit))=>match p with
 | .inl e =>
 (some ((.inr e)))
 | .inr (()) =>
 (some ((.inl (()))))))
 (fun (p:(Unit) ⊕ (Int))=>match p with
 | .inl (()) =>
 (some (-1:Int))
 | .inr f =>
 (some f))
noncomputable def ZBk (l:(List (List UInt8))) (val:(List UInt8)):Option (Int) :=
 bnd (bnd (Z0 (fun s:Int=>match s with
 | a =>
 (ifb (decide (a<(l.length:Int)))
 (bnd (idx l a) fun b =>
 ifb (val==b)
 (some (.inr ((.inl a))))
 (bnd (chk .i64 (a+(1:Int))) fun c =>
 some (.inl c)))
 (some (.inr ((.inr (()))))))) Z9 (0:Int))
 (fun (p:(Int) ⊕ (Unit))=>match p with
 | .inl d =>
 (some ((.inr d)))
 | .inr (()) =>
 (some ((.inl (()))))))
 (fun (p:(Unit) ⊕ (Int))=>match p with
 | .inl (()) =>
 (some (-1:Int))
 | .inr e =>
 (some e))
noncomputable def Zti (l:(List (List UInt8))) (val:(List UInt8)):Option (Bool) :=
 bnd (ZBk l val) fun a =>
 some (decide ((0:Int)≤a))
noncomputable def Zig (r:((List UInt8)×(List (List ((List UInt8)×Rat×Rat))))) (pol:(List (List UInt8))):Option ((List ((List UInt8)×Rat))×Int) :=
 bnd (Znf ((r.1,r.2))) fun e =>
 ifb (e != (0:Int))
 (some ((([]:(List ((List UInt8)×Rat))),e)))
 (ifb (decide ((16:Int)<(pol.length:Int)))
 (some ((([]:(List ((List UInt8)×Rat))),(4:Int))))
 (bnd (Z7f ((r.1,r.2))) fun b =>
 bnd (bnd (Z0 (fun s:Rat×Int=>match s with
 | (f,c) =>
 (ifb (decide (c<(pol.length:Int)))
 (bnd (idx pol c) fun g =>
 bnd (Z3h b g) fun h =>
 ifb (decide (h<(0:Int)))
 (some (.inr ((.inl ((([]:(List ((List UInt8)×Rat))),(5:Int)))))))
 (bnd (Zyb pol (0:Int) c) fun j =>
 bnd (Zti j g) fun k =>
 ifb (k)
 (some (.inr ((.inl ((([]:(List ((List UInt8)×Rat))),(8:Int)))))))
 (bnd (idx b h) fun l =>
 bnd (ZRc f l.2) fun m =>
 bnd (chk .i64 (c+(1:Int))) fun n =>
 some (.inl ((m,n))))))
 (some (.inr ((.inr f)))))) Z9 (((0:Rat),(0:Int))))
 (fun (p:((List ((List UInt8)×Rat))×Int) ⊕ (Rat))=>match p with
 | .inl ((o,q)) =>
 (some ((.inr ((o,q)))))
 | .inr t =>
 (some ((.inl t)))))
 (fun (p:(Rat) ⊕ ((List ((List UInt8)×Rat))×Int))=>match p with
 | .inl u =>
 (bnd (bnd (Zvd (100:Int)) fun v =>
 bnd (ZPd v u) fun i =>
 some ((i.1,i.2)))
 (fun (p:Rat×Int)=>match p with
 | (w,x) =>
 (ifb (x != (0:Int))
 (some ((([]:(List ((List UInt8)×Rat))),(3:Int))))
 (bnd (bnd (Z0 (fun s:(List ((List UInt8)×Rat))×Int=>match s with
 | (d,a) =>
 (ifb (decide (a<(b.length:Int)))
 (bnd (idx d a) fun y =>
 bnd (ZJd y.2 w) fun z =>
 bnd (idx d a) fun A =>
 bnd (chk .i64 (a+(1:Int))) fun B =>
 some (.inl (((d.set (a).toNat ((A.1,z))),B))))
 (some (.inr d)))) Z9 ((b,(0:Int))))
 (fun (C:(List ((List UInt8)×Rat))) =>
 (some C)))
 (fun (D:(List ((List UInt8)×Rat))) =>
 (some ((D,(0:Int)))))))))
 | .inr ((E,F)) =>
 (some ((E,F))))))
noncomputable def ZYg (l:(List ((List UInt8)×Rat))) (nam:(List UInt8)):Option (Int) :=
 bnd (bnd (Z0 (fun s:Int=>match s with
 | a =>
 (ifb (decide (a<(l.length:Int)))
 (bnd (idx l a) fun b =>
 ifb (b.1==nam)
 (some (.inr ((.inl a))))
 (bnd (chk .i64 (a+(1:Int))) fun c =>
 some (.inl c)))
 (some (.inr ((.inr (()))))))) Z9 (0:Int))
 (fun (p:(Int) ⊕ (Unit))=>match p with
 | .inl d =>
 (some ((.inr d)))
 | .inr (()) =>
 (some ((.inl (()))))))
 (fun (p:(Unit) ⊕ (Int))=>match p with
 | .inl (()) =>
 (some (-1:Int))
 | .inr e =>
 (some e))
noncomputable def Zng (r:((List UInt8)×(List (List ((List UInt8)×Rat×Rat))))) (pol:(List (List UInt8))):Option ((List ((List UInt8)×Rat))×Int) :=
 bnd (Zgf ((r.1,r.2))) fun k =>
 ifb (k != (0:Int))
 (some ((([]:(List ((List UInt8)×Rat))),k)))
 (ifb (decide ((16:Int)<(pol.length:Int)))
 (some ((([]:(List ((List UInt8)×Rat))),(4:Int))))
 (bnd (bnd (Z0 (fun s:(List ((List UInt8)×Rat))×Int=>match s with
 | (l,f) =>
 (ifb (decide (f<(r.2.length:Int)))
 (bnd (bnd (Z0 (fun s:(List ((List UInt8)×Rat))×Int=>match s with
 | (a,h) =>
 (bnd (idx r.2 f) fun q =>
 ifb (decide (h<(q.length:Int)))
 (bnd (bnd (idx r.2 f) fun t =>
 bnd (idx t h) fun b =>
 bnd (ZYg a b.1) fun g =>
 ifb (decide (g<(0:Int)))
 (bnd (ZNa 72 (a++[(b.1,b.2.1)])) fun ad =>
 some ((a++[(b.1,b.2.1)])))
 (bnd (idx a g) fun u =>
 bnd (ZDd u.2 b.2.1) fun v =>
 bnd (idx a g) fun w =>
 some ((a.set (g).toNat ((w.1,v))))))
 (fun (x:(List ((List UInt8)×Rat))) =>
 (bnd (chk .i64 (h+(1:Int))) fun y =>
 some (.inl ((x,y))))))
 (some (.inr a)))) Z9 ((l,(0:Int))))
 (fun (z:(List ((List UInt8)×Rat))) =>
 (some z)))
 (fun (A:(List ((List UInt8)×Rat))) =>
 (bnd (chk .i64 (f+(1:Int))) fun B =>
 some (.inl ((A,B))))))
 (some (.inr l)))) Z9 ((([]:(List ((List UInt8)×Rat))),(0:Int))))
 (fun (C:(List ((List UInt8)×Rat))) =>
 (some C)))
 (fun (i:(List ((List UInt8)×Rat))) =>
 (bnd (Zzc (0:Int)) fun D =>
 bnd (bnd (Z0 (fun s:Rat×Int=>match s with
 | (m,c) =>
 (ifb (decide (c<(pol.length:Int)))
 (bnd (idx pol c) fun E =>
 bnd (ZYg i E) fun n =>
 ifb (decide (n<(0:Int)))
 (some (.inr ((.inl ((([]:(List ((List UInt8)×Rat))),(5:Int)))))))
 (bnd (bnd (Z0 (fun s:Int=>match s with
 | j =>
 (ifb (decide (j<c))
 (bnd (idx pol j) fun F =>
 bnd (idx pol c) fun G =>
 ifb (F==G)
 (some (.inr ((.inl ((([]:(List ((List UInt8)×Rat))),(8:Int)))))))
 (bnd (chk .i64 (j+(1:Int))) fun H =>
 some (.inl H)))
 (some (.inr ((.inr (()))))))) Z9 (0:Int))
 (fun (p:((List ((List UInt8)×Rat))×Int) ⊕ (Unit))=>match p with
 | .inl ((I,J)) =>
 (some ((.inr ((I,J)))))
 | .inr (()) =>
 (some ((.inl (()))))))
 (fun (p:(Unit) ⊕ ((List ((List UInt8)×Rat))×Int))=>match p with
 | .inl (()) =>
 (bnd (idx i n) fun K =>
 bnd (ZDd m K.2) fun L =>
 bnd (chk .i64 (c+(1:Int))) fun M =>
 some (.inl ((L,M))))
 | .inr ((N,O)) =>
 (some (.inr ((.inl ((N,O)))))))))
 (some (.inr ((.inr m)))))) Z9 ((D,(0:Int))))
 (fun (p:((List ((List UInt8)×Rat))×Int) ⊕ (Rat))=>match p with
 | .inl ((P,Q)) =>
 (some ((.inr ((P,Q)))))
 | .inr R =>
 (some ((.inl R)))))
 (fun (p:(Rat) ⊕ ((List ((List UInt8)×Rat))×Int))=>match p with
 | .inl o =>
 (bnd (ZFd o) fun S =>
 ifb (S)
 (some ((([]:(List ((List UInt8)×Rat))),(3:Int))))
 (bnd (bnd (Z0 (fun s:(List ((List UInt8)×Rat))×Int=>match s with
 | (d,e) =>
 (ifb (decide (e<(d.length:Int)))
 (bnd (Zzc (100:Int)) fun T =>
 bnd (idx d e) fun U =>
 bnd (Z6e T U.2) fun V =>
 bnd (ZWe V o) fun W =>
 bnd (idx d e) fun X =>
 bnd (chk .i64 (e+(1:Int))) fun Y =>
 some (.inl (((d.set (e).toNat ((X.1,W))),Y))))
 (some (.inr d)))) Z9 ((i,(0:Int))))
 (fun (Z:(List ((List UInt8)×Rat))) =>
 (some Z)))
 (fun (aa:(List ((List UInt8)×Rat))) =>
 (some ((aa,(0:Int)))))))
 | .inr ((ab,ac)) =>
 (some ((ab,ac))))))))
set_option maxRecDepth 100000
theorem ZOo (l:List AM) (x:IT) (hl:l.length≤1000):Zzi l x=some (Zrb l x.1):=by
 unfold Zzi ZDi;refine ZZh (by omega) (fun i hi=>?_) ?_
 ·simp only;rw [decide_eq_true (by omega),ZJ,Zfa hi,Zh,Zh]
  cases l[i].1==x.1 with
  | true=>rw [ZJ,if_pos rfl]
  | false=>rw [ZI,Zma (by omega) (by omega),Zh,if_neg (by decide)]
 ·simp only;rw [decide_eq_false (by omega),ZI]
theorem Zor (l:List AM) (s:BS) (hl:l.length≤1000):Z3h l s=some (Zrb l s):=by
 unfold Z3h Z9i;refine ZZh (by omega) (fun i hi=>?_) ?_
 ·simp only;rw [decide_eq_true (by omega),ZJ,Zfa hi,Zh,Zh]
  cases l[i].1==s with
  | true=>rw [ZJ,if_pos rfl]
  | false=>rw [ZI,Zma (by omega) (by omega),Zh,if_neg (by decide)]
 ·simp only;rw [decide_eq_false (by omega),ZI]
theorem Zan (l:List AM) (s:BS) (hl:l.length≤1000):ZYg l s=some (Zrb l s):=by
 unfold ZYg;refine ZZh (by omega) (fun i hi=>?_) ?_
 ·simp only;rw [decide_eq_true (by omega),ZJ,Zfa hi,Zh]
  cases l[i].1==s with
  | true=>rw [ZJ,if_pos rfl]
  | false=>rw [ZI,Zma (by omega) (by omega),Zh,if_neg (by decide)]
 ·simp only;rw [decide_eq_false (by omega),ZI]
abbrev gA (l:List AM) (i:Nat):AM:=l.getD i ([],0)
theorem ZLg {l:List AM} {k:Nat} (h:k<l.length):idx l (k:Int)=some (gA l k):=by unfold gA;rw [ZEb h];exact Zfa h
def addA (x:IT) (out:List AM):List AM:=if Zrb out x.1<0 then out++[(x.1,x.2.1)] else out.set (Zrb out x.1).toNat ((gA out (Zrb out x.1).toNat).1,(gA out (Zrb out x.1).toNat).2+x.2.1)
def amS (l:List IT) (out:List AM):Nat→List AM:=itF (fun k o=>addA (gI l k) o) out
def amR (l:List (List IT)):Nat→List AM:=itF (fun i o=>amS (gS l i) o (gS l i).length) []
def SzA (B c:Nat) (out:List AM):Prop:=out.length≤c∧∀ i,i<out.length→sz ((B+1)*c+1) (gA out i).2
theorem SzA.mono {B c d:Nat} {out:List AM} (h:SzA B c out) (hd:c≤d):SzA B d out:=⟨by have:=h.1;omega,fun i hi=>(h.2 i hi).mono (by have:=Nat.mul_le_mul_left (B+1) hd;omega)⟩
theorem addA_sz {B c:Nat} {out:List AM} {x:IT} (h:SzA B c out) (hx:sz B x.2.1):SzA B (c+1) (addA x out):=by
 unfold addA;by_cases k0:Zrb out x.1<0
 ·rw [if_pos k0];refine ⟨by rw [List.length_append,List.length_singleton];have:=h.1;omega,fun i hi=>?_⟩;unfold gA;rw [ZEb hi];by_cases hi':i<out.length
  ·rw [List.getElem_append_left hi'];have:=h.2 i hi';unfold gA at this;rw [ZEb hi'] at this;exact this.mono (by have:=Nat.mul_add_one (B+1) c;omega)
  ·rw [List.getElem_append_right (by omega)];simp only [List.getElem_singleton];exact hx.mono (by have:=Nat.mul_add_one (B+1) c;omega)
 ·rw [if_neg k0];obtain ⟨k,e,hk⟩:=Zeh k0;rw [e,Int.toNat_natCast];refine ⟨by rw [List.length_set];have:=h.1;omega,fun i hi=>?_⟩;unfold gA at *;rw [List.length_set] at hi;rw [ZEb (by rw [List.length_set];exact hi),List.getElem_set];split
  ·exact (Z4j (h.2 k hk) hx).mono (by have:=Nat.mul_add_one (B+1) c;omega)
  ·have:=h.2 i hi;unfold gA at this;rw [ZEb hi] at this;exact this.mono (by have:=Nat.mul_add_one (B+1) c;omega)
theorem Zcl {B:Nat} {l:List IT} (hz:SzL B l) {c:Nat} {out:List AM} (h:SzA B c out):∀ k,k≤l.length→SzA B (c+k) (amS l out k) :=
 Z0f (fun k o=>SzA B (c+k) o) l.length h fun k x hk hx=>addA_sz hx (hz _ (Zdf hk)).2.1
theorem Z8n {c:Nat} {out:List AM} {x:IT} (h:SzA 7000 c out) (hc:c≤900) (hx:sz 7000 x.2.1) (add:Rat→Rat→Option Rat) (ha:∀ {k m:Nat} {x y:Rat},sz k x→sz m y→k+m≤1000000000→add x y=some (x+y)) :
  (ifb (decide (Zrb out x.1<(0:Int)))
 (bnd (ZNa 72 (out++[(x.1,x.2.1)])) fun _ =>
 some ((out++[(x.1,x.2.1)])))
 (bnd (idx out (Zrb out x.1)) fun y284 =>
 bnd (add y284.2 x.2.1) fun y298 =>
 bnd (idx out (Zrb out x.1)) fun y307 =>
 some ((out.set (Zrb out x.1).toNat ((y307.1,y298))))))=some (addA x out):=by
 unfold addA;by_cases k0:Zrb out x.1<0
 ·rw [decide_eq_true k0,ZJ,if_pos k0,show ZNa 72 (out++[(x.1,x.2.1)])=some () by unfold ZNa;rw [if_pos (by rw [List.length_append,List.length_singleton];have:=h.1;omega)],Zh]
 ·rw [decide_eq_false k0,ZI,if_neg k0];obtain ⟨k,e,hk⟩:=Zeh k0;rw [e,Int.toNat_natCast,ZLg hk,Zh,ha (h.2 k hk) hx (by omega),Zh,Zh]
section
variable {B:Nat} {r:RCP} (h:SzRc B r) (h0:Z7a r=0)
include h h0
theorem Z2g:∀ i,i≤r.2.length→SzA B (16*i) (amR r.2 i) :=
 Z0f (fun i o=>SzA B (16*i) o) r.2.length ⟨by simp,fun i hi=>by simp at hi⟩ fun k x hk hx=>by
  obtain ⟨hz,h16⟩:=Zje h h0 hk
  exact (Zcl hz hx _ (Nat.le_refl _)).mono (by omega)
end
theorem Zqr {r:RCP} (h:SzRc 7000 r) (h0:Z7a r=0):Z7f r=some (amR r.2 r.2.length):=by
 have n6:=Zie h0;unfold Z7f;refine ZAa (y:=amR r.2 r.2.length) (ZAa (y:=amR r.2 r.2.length) (Zpc (fun k=>(amR r.2 k,(k:Int))) r.2.length rfl (by omega) (fun k hk=>?_) ?_) rfl) rfl
 ·obtain ⟨hz,h16⟩:=Zje h h0 hk;have za:=Z2g h h0 k (by omega);have ea:amR r.2 (k+1)=amS (gS r.2 k) (amR r.2 k) (gS r.2 k).length:=rfl;have ei:=Zyf hk;simp only;rw [ea];generalize gS r.2 k=L at hz h16 ei;rw [decide_eq_true (by omega),ZJ,ei,Zh];refine ZAa (y:=amS L (amR r.2 k) L.length) (ZAa (y:=amS L (amR r.2 k) L.length) (Zpc (fun j=>(amS L (amR r.2 k) j,(j:Int))) L.length rfl (by omega) (fun j hj=>?_) ?_) rfl) ?_
  ·have zs:=Zcl hz za j (by omega);have hx:=(hz _ (Zdf hj)).2.1;have es:amS L (amR r.2 k) (j+1)=addA (gI L j) (amS L (amR r.2 k) j):=rfl;simp only;rw [es,decide_eq_true (by omega),ZJ,ZFg hj,Zh];generalize gI L j=x at hx;generalize amS L (amR r.2 k) j=out at zs;rw [ZOo _ _ (by have:=zs.1;omega),Zh,Z8n zs (by omega) hx ZRc ZXi,Zh,Zma (by omega) (by omega),Zh];rfl
  ·simp only;rw [decide_eq_false (by omega),ZI]
  ·skip
   rw [Zma (by omega) (by omega),Zh];rfl
 ·simp only;rw [decide_eq_false (by omega),ZI]
def hasB (pol:List BS) (k:Nat) (nm:BS):Bool:=((pol.take k).findIdx? fun y=>y==nm).isSome
theorem ZXp (l:List BS) (v:BS) (hl:l.length≤1000):Zti l v=some (l.findIdx? fun y=>y==v).isSome:=by
 unfold Zti ZBk;have e:(fun y:BS=>y==v)=fun y=>v==y:=by funext y;exact BEq.comm
 rw [e];refine ZAa (y:=match l.findIdx? fun y=>v==y with | some k=>(k:Int) | none=>-1) (ZAa (y:=match l.findIdx? fun y=>v==y with | some k=>.inr (k:Int) | none=>.inl ()) (ZAa (Zmi (l:=l) (fun y=>v==y) (fun k=>(k:Int)) (by omega) (fun i hi=>?_) ?_) ?_) ?_) ?_
 ·simp only;rw [decide_eq_true (by omega),ZJ,Zfa hi,Zh]
  cases v==l[i] with
  | true=>rw [ZJ,if_pos rfl]
  | false=>rw [ZI,Zma (by omega) (by omega),Zh,if_neg (by decide)]
 ·simp only;rw [decide_eq_false (by omega),ZI]
 ·cases l.findIdx? fun y=>v==y <;> rfl
 ·cases l.findIdx? fun y=>v==y <;> rfl
 ·cases l.findIdx? fun y=>v==y with
  | none=>rfl
  | some k=>simp only [Option.isSome_some];rw [decide_eq_true (by omega)]
def Zuc (am:List AM) (pol:List BS) (nm:BS) (s:Rat×Nat):((List AM×Int) ⊕ Rat) ⊕ (Rat×Nat) :=
 if Zrb am nm<0 then .inl (.inl ([],5)) else if hasB pol s.2 nm=true then .inl (.inl ([],8)) else .inr (s.1+(gA am (Zrb am nm).toNat).2,s.2+1)
def Zud (s:Rat×Nat):(List AM×Int) ⊕ Rat:=.inr s.1
def upP (am:List AM) (b:Rat):Nat→List AM:=itF (fun k o=>o.set k ((gA o k).1,(gA o k).2*(((100:Int):Rat) / b))) am
def Z8d (r:RCP) (pol:List BS):List AM×Int :=
 if Z7a r≠0 then ([],Z7a r) else if (16:Int)<pol.length then ([],4) else
  match Zfc (Zuc (amR r.2 r.2.length) pol) Zud pol (0,0) with
  | .inl e=>e
  | .inr b=>if b=0 then ([],3) else (upP (amR r.2 r.2.length) b (amR r.2 r.2.length).length,0)
theorem ZGh:sz 64 ((100:Int):Rat):=Z1n (by omega)
section
variable {B:Nat} {am:List AM} {pol:List BS} (ha:SzA B 96 am) (hp:pol.length≤16)
include ha hp
theorem Z3j:∀ i s s',(hi:i<pol.length)→(s.2=i∧sz (((B+1)*96+2)*i+1) s.1)→Zuc am pol pol[i] s = .inr s'→(s'.2=i+1∧sz (((B+1)*96+2)*(i+1)+1) s'.1):=by
 rintro i s s' hi ⟨h1,h2⟩ hs;unfold Zuc at hs;by_cases k0:Zrb am pol[i]<0
 ·rw [if_pos k0] at hs;cases hs
 rw [if_neg k0] at hs;by_cases k1:hasB pol s.2 pol[i]=true
 ·rw [if_pos k1] at hs;cases hs
 rw [if_neg k1] at hs
 cases hs
 obtain ⟨k,e,hk⟩:=Zeh k0;rw [e,Int.toNat_natCast];exact ⟨by simp only;omega,(Z4j h2 (ha.2 k hk)).mono (by have:=Nat.mul_add_one ((B+1)*96+2) i;omega)⟩
theorem ZNl {b:Rat} (h:Zfc (Zuc am pol) Zud pol (0,0) = .inr b):sz (((B+1)*96+2)*16+1) b:=by
 have:=ZQn (f:=Zuc am pol) (fin:=Zud) (fun i s=>s.2=i∧sz (((B+1)*96+2)*i+1) s.1) (fun x=>∀ b,x = .inr b→sz (((B+1)*96+2)*16+1) b) pol (fun i s x hi hI hx o ho=>by
   subst ho;unfold Zuc at hx;split at hx
   ·cases hx
   ·split at hx <;> cases hx) (Z3j ha hp) (fun s hI b hb=>by cases hb;exact hI.2.mono (by have:=Nat.mul_le_mul_left ((B+1)*96+2) hp;omega)) (s0:=(0,0)) ⟨rfl,ZKf⟩
 exact this b h
omit hp in
theorem upP_inv {b:Rat} (hb:sz (((B+1)*96+2)*16+1) b):∀ k,k≤am.length→(upP am b k).length=am.length∧(∀ j,k≤j→j<am.length→gA (upP am b k) j=gA am j)∧∀ j,j<k→sz (((B+1)*96+2)*17+200) (gA (upP am b k) j).2 :=
 Z0f (fun k o=>o.length=am.length∧(∀ j,k≤j→j<am.length→gA o j=gA am j)∧∀ j,j<k→sz (((B+1)*96+2)*17+200) (gA o j).2) am.length ⟨rfl,fun _ _ _=>rfl,fun j hj=>by omega⟩ fun k o hk ⟨h1,h2,h3⟩=>by
  refine ⟨by rw [List.length_set];exact h1,fun j hj hl=>?_,fun j hj=>?_⟩
  ·have:=h2 j (by omega) hl
   unfold gA at *
   rw [ZEb (by rw [List.length_set];omega),List.getElem_set_ne (by omega),← ZEb (d:=([],0)) (by omega)]
   exact this
  ·by_cases e:j=k
   ·subst e
    have:=h2 j (Nat.le_refl _) hk
    have z:=Zjk (ha.2 j hk) (Zmh ZGh hb)
    unfold gA at *
    rw [ZEb (by rw [List.length_set];omega),List.getElem_set_self,this]
    exact z.mono (by have:=Nat.mul_add_one ((B+1)*96+2) 16;omega)
   ·have:=h3 j (by omega)
    unfold gA at *
    rw [ZEb (by rw [List.length_set];omega),List.getElem_set_ne (by omega),← ZEb (d:=([],0)) (by omega)]
    exact this
end
theorem Znp {r:RCP} (h:SzRc 7000 r) (pol:List BS):Zig r pol=some (Z8d r pol):=by
 unfold Zig Z8d;rw [ZSl h,Zh];by_cases c0:Z7a r≠0
 ·have:(Z7a r != 0)=true:=by simpa using c0
  rw [this,ZJ,if_pos c0]
 have:(Z7a r != 0)=false:=by simpa using c0
 rw [this,ZI,if_neg c0];have c0:=Decidable.not_not.1 c0;have n6:=Zie c0;by_cases h16:(16:Int)<pol.length
 ·rw [decide_eq_true h16,ZJ,if_pos h16]
 rw [decide_eq_false h16,ZI,if_neg h16,show Z7f (r.1,r.2)=some (amR r.2 r.2.length) from Zqr h c0,Zh];have ha:=(Z2g h c0 _ (Nat.le_refl _)).mono (show 16*r.2.length≤96 by omega);have hp:pol.length≤16:=by omega
 generalize amR r.2 r.2.length=am at ha;refine ZAa (y:=match Zfc (Zuc am pol) Zud pol (0,0) with | .inl e=>.inr e | .inr b=>.inl b) (ZAa (ZIl pol (fun s i=>(s.1,(i:Int))) (Zuc am pol) Zud (fun i s=>s.2=i∧sz (((7000+1)*96+2)*i+1) s.1) (s0:=(0,0)) rfl ⟨rfl,ZKf⟩ (by omega) (fun i s hi hI=>?_) (Z3j ha hp) (fun s hI=>?_)) ?_) ?_
 ·obtain ⟨h1,h2⟩:=hI;simp only;rw [decide_eq_true (by omega),ZJ,Zfa hi,Zh,Zor _ _ (by have:=ha.1;omega),Zh];unfold Zuc;by_cases k0:Zrb am pol[i]<0
  ·rw [decide_eq_true k0,ZJ,if_pos k0]
  rw [decide_eq_false k0,ZI,if_neg k0,ZQl _ (by omega),Zh,ZXp _ _ (by simp;omega),Zh,h1];unfold hasB
  cases hb:((pol.take i).findIdx? fun y=>y==pol[i]).isSome with
  | true=>rw [ZJ,if_pos rfl]
  | false =>
   obtain ⟨k,e,hk⟩:=Zeh k0;rw [ZI,if_neg (by decide),e,Int.toNat_natCast,ZLg hk,Zh,ZXi h2 (ha.2 k hk) (by omega),Zh,Zma (by omega) (by omega),Zh];rfl
 ·simp only;rw [decide_eq_false (by omega),ZI];rfl
 ·cases Zfc (Zuc am pol) Zud pol (0,0) <;> rfl
 cases hR:Zfc (Zuc am pol) Zud pol (0,0) with
 | inl e=>rfl
 | inr b =>
 have zb:=ZNl ha hp hR;simp only;unfold Zvd ZPd;rw [Zh,if_pos ⟨ZGh.ok (by omega),zb.ok (by omega)⟩,Zh,Zh];by_cases b0:b=0
 ·rw [if_pos b0,if_pos b0];rfl
 rw [if_neg b0,if_neg b0];simp only [bne_self_eq_false,ZI];have zf:=Zmh ZGh zb;refine ZAa (y:=upP am b am.length) (ZAa (y:=upP am b am.length) (Zpc (fun k=>(upP am b k,(k:Int))) am.length rfl (by have:=ha.1;omega) (fun k hk=>?_) ?_) rfl) rfl
 ·obtain ⟨u1,u2,u3⟩:=upP_inv ha zb k (by omega);have hl:=ha.1;have eu:=u2 k (Nat.le_refl _) hk;have es:upP am b (k+1)=(upP am b k).set k ((gA (upP am b k) k).1,(gA (upP am b k) k).2*(((100:Int):Rat) / b)):=rfl;simp only;rw [es,decide_eq_true (by omega),ZJ,ZLg (by omega),Zh,eu,Zhl (ha.2 k hk) zf (by omega),Zh,Zh,Zma (by omega) (by omega),Zh,Int.toNat_natCast];rfl
 ·simp only;rw [decide_eq_false (by omega),ZI]
theorem prt_sz {B:Nat} {r:RCP} (h:SzRc B r) (pol:List BS):(Z8d r pol).1.length≤96∧∀ j,j<(Z8d r pol).1.length→sz (((B+1)*96+2)*17+200) (gA (Z8d r pol).1 j).2:=by
 unfold Z8d;by_cases c0:Z7a r≠0
 ·rw [if_pos c0];exact ⟨by simp,fun i hi=>by simp at hi⟩
 rw [if_neg c0];have c0:=Decidable.not_not.1 c0;have n6:=Zie c0;by_cases h16:(16:Int)<pol.length
 ·rw [if_pos h16];exact ⟨by simp,fun i hi=>by simp at hi⟩
 rw [if_neg h16];have ha:=(Z2g h c0 _ (Nat.le_refl _)).mono (show 16*r.2.length≤96 by omega);have hp:pol.length≤16:=by omega
 generalize amR r.2 r.2.length=am at ha;have hJ:=ZQn (f:=Zuc am pol) (fin:=Zud) (fun i s=>s.2=i∧sz (((B+1)*96+2)*i+1) s.1) (fun x=>∀ e,x = .inl e→e.1=[]) pol (fun i s x hi hI hx e he=>by
   subst he;unfold Zuc at hx;split at hx
   ·cases hx;rfl
   ·split at hx
    ·cases hx;rfl
    ·cases hx) (Z3j ha hp) (fun s hI b hb=>by cases hb) (s0:=(0,0)) ⟨rfl,ZKf⟩
 cases hR:Zfc (Zuc am pol) Zud pol (0,0) with
 | inl e=>simp only;rw [hJ e hR];exact ⟨by simp,fun i hi=>by simp at hi⟩
 | inr b =>
  simp only;by_cases b0:b=0
  ·rw [if_pos b0];exact ⟨by simp,fun i hi=>by simp at hi⟩
  rw [if_neg b0];obtain ⟨u1,u2,u3⟩:=upP_inv ha (ZNl ha hp hR) am.length (Nat.le_refl _);simp only;rw [u1];exact ⟨ha.1,u3⟩
theorem Z6r {r:RCP} (h:SzRc 7000 r) (pol:List BS):Zng r pol=some (Z8d r pol):=by
 unfold Zng Z8d;rw [Zql h,Zh];by_cases c0:Z7a r≠0
 ·have:(Z7a r != 0)=true:=by simpa using c0
  rw [this,ZJ,if_pos c0]
 have:(Z7a r != 0)=false:=by simpa using c0
 rw [this,ZI,if_neg c0];have c0:=Decidable.not_not.1 c0;have n6:=Zie c0;by_cases h16:(16:Int)<pol.length
 ·rw [decide_eq_true h16,ZJ,if_pos h16]
 rw [decide_eq_false h16,ZI,if_neg h16];refine ZAa (y:=amR r.2 r.2.length) (ZAa (y:=amR r.2 r.2.length) (Zpc (fun k=>(amR r.2 k,(k:Int))) r.2.length rfl (by omega) (fun k hk=>?_) ?_) rfl) ?_
 ·obtain ⟨hz,h16⟩:=Zje h c0 hk;have za:=Z2g h c0 k (by omega);have ea:amR r.2 (k+1)=amS (gS r.2 k) (amR r.2 k) (gS r.2 k).length:=rfl;have ei:=Zyf hk;simp only;rw [ea];generalize gS r.2 k=L at hz h16 ei;rw [decide_eq_true (by omega),ZJ];refine ZAa (y:=amS L (amR r.2 k) L.length) (ZAa (y:=amS L (amR r.2 k) L.length) (Zpc (fun j=>(amS L (amR r.2 k) j,(j:Int))) L.length rfl (by omega) (fun j hj=>?_) ?_) rfl) ?_
  ·have zs:=Zcl hz za j (by omega);have hx:=(hz _ (Zdf hj)).2.1;have es:amS L (amR r.2 k) (j+1)=addA (gI L j) (amS L (amR r.2 k) j):=rfl;simp only;rw [es,ei,Zh,decide_eq_true (by omega),ZJ,Zh,ZFg hj,Zh];generalize gI L j=x at hx;generalize amS L (amR r.2 k) j=out at zs;rw [Zan _ _ (by have:=zs.1;omega),Zh,Z8n zs (by omega) hx ZDd ZLj,Zh,Zma (by omega) (by omega),Zh];rfl
  ·simp only;rw [ei,Zh,decide_eq_false (by omega),ZI]
  ·skip
   rw [Zma (by omega) (by omega),Zh];rfl
 ·simp only;rw [decide_eq_false (by omega),ZI]
 have ha:=(Z2g h c0 _ (Nat.le_refl _)).mono (show 16*r.2.length≤96 by omega);have hp:pol.length≤16:=by omega
 have q0:Zzc (0:Int)=some 0:=rfl;simp only;rw [q0,Zh];generalize amR r.2 r.2.length=am at ha;refine ZAa (y:=match Zfc (Zuc am pol) Zud pol (0,0) with | .inl e=>.inr e | .inr b=>.inl b) (ZAa (ZIl pol (fun s i=>(s.1,(i:Int))) (Zuc am pol) Zud (fun i s=>s.2=i∧sz (((7000+1)*96+2)*i+1) s.1) (s0:=(0,0)) rfl ⟨rfl,ZKf⟩ (by omega) (fun i s hi hI=>?_) (Z3j ha hp) (fun s hI=>?_)) ?_) ?_
 ·obtain ⟨h1,h2⟩:=hI;simp only;rw [decide_eq_true (by omega),ZJ,Zfa hi,Zh,Zan _ _ (by have:=ha.1;omega),Zh];unfold Zuc;by_cases k0:Zrb am pol[i]<0
  ·rw [decide_eq_true k0,ZJ,if_pos k0]
  rw [decide_eq_false k0,ZI,if_neg k0,h1];unfold hasB;have hl:(pol.take i).length=i:=by simp;omega
  refine ZAa (y:=if ((pol.take i).findIdx? fun y=>y==pol[i]).isSome=true then .inr ([],8) else .inl ()) (ZAa (Zmi (l:=pol.take i) (fun y=>y==pol[i]) (fun _=>(([],8):List AM×Int)) (by omega) (fun j hj=>?_) ?_) ?_) ?_
  ·rw [hl] at hj
   skip
   rw [decide_eq_true (by omega),ZJ,Zfa (show j<pol.length by omega),Zh,Zh,List.getElem_take]
   cases pol[j]==pol[i] with
   | true=>rw [ZJ,if_pos rfl]
   | false=>rw [ZI,Zma (by omega) (by omega),Zh,if_neg (by decide)]
  ·skip
   rw [hl,decide_eq_false (by omega),ZI]
  ·cases ((pol.take i).findIdx? fun y=>y==pol[i]) <;> rfl
  ·cases hb:((pol.take i).findIdx? fun y=>y==pol[i]).isSome with
   | true=>rw [if_pos rfl,if_pos rfl]
   | false =>
    obtain ⟨k,e,hk⟩:=Zeh k0;rw [if_neg (by decide),if_neg (by decide)];simp only;rw [e,Int.toNat_natCast,ZLg hk,Zh,ZLj h2 (ha.2 k hk) (by omega),Zh,Zma (by omega) (by omega),Zh];rfl
 ·simp only;rw [decide_eq_false (by omega),ZI];rfl
 ·cases Zfc (Zuc am pol) Zud pol (0,0) <;> rfl
 cases hR:Zfc (Zuc am pol) Zud pol (0,0) with
 | inl e=>rfl
 | inr b =>
 have zb:=ZNl ha hp hR;simp only;unfold ZFd;rw [Zh];by_cases b0:b=0
 ·rw [decide_eq_true b0,ZJ,if_pos b0]
 rw [decide_eq_false b0,ZI,if_neg b0];refine ZAa (y:=upP am b am.length) (ZAa (y:=upP am b am.length) (Zpc (fun k=>(upP am b k,(k:Int))) am.length rfl (by have:=ha.1;omega) (fun k hk=>?_) ?_) rfl) rfl
 ·obtain ⟨u1,u2,u3⟩:=upP_inv ha zb k (by omega);have hl:=ha.1;have eu:=u2 k (Nat.le_refl _) hk;have es:upP am b (k+1)=(upP am b k).set k ((gA (upP am b k) k).1,(gA (upP am b k) k).2*(((100:Int):Rat) / b)):=rfl;have q1:Zzc (100:Int)=some ((100:Int):Rat):=rfl;have eq:((100:Int):Rat)*(gA am k).2 / b=(gA am k).2*(((100:Int):Rat) / b):=by rw [Rat.div_def,Rat.div_def,Rat.mul_comm ((100:Int):Rat),Rat.mul_assoc]
  simp only;rw [es,decide_eq_true (by omega),ZJ,q1,Zh,ZLg (by omega),Zh,eu,Zol ZGh (ha.2 k hk) (by omega),Zh,rby_ok (Zjk ZGh (ha.2 k hk)) zb (by omega) b0,Zh,Zh,Zma (by omega) (by omega),Zh,Int.toNat_natCast,eq];rfl
 ·obtain ⟨u1,u2,u3⟩:=upP_inv ha zb am.length (Nat.le_refl _);simp only;rw [u1,decide_eq_false (by omega),ZI]
noncomputable def Zjh (p:(List ((List UInt8)×Rat))) (q:(List ((List UInt8)×Rat))):Option (Bool) :=
 ifb (((p.length:Int)) != ((q.length:Int)))
 (some false)
 (bnd (bnd (Z0 (fun s:Int=>match s with
 | a =>
 (ifb (decide (a<(p.length:Int)))
 (bnd (idx p a) fun b =>
 bnd (bnd (idx q a) fun c =>
 ifb (b.1 != c.1)
 (some true)
 (bnd (idx q a) fun d =>
 bnd (ZOe b.2 d.2) fun e =>
 some (!(e))))
 (fun (f:Bool) =>
 (ifb (f)
 (some (.inr ((.inl false))))
 (bnd (chk .i64 (a+(1:Int))) fun g =>
 some (.inl g)))))
 (some (.inr ((.inr (()))))))) Z9 (0:Int))
 (fun (p:(Bool) ⊕ (Unit))=>match p with
 | .inl h =>
 (some ((.inr h)))
 | .inr (()) =>
 (some ((.inl (()))))))
 (fun (p:(Unit) ⊕ (Bool))=>match p with
 | .inl (()) =>
 (some true)
 | .inr i =>
 (some i)))
noncomputable def ZMg (p:((List UInt8)×(List (List ((List UInt8)×Rat×Rat))))) (q:((List UInt8)×(List (List ((List UInt8)×Rat×Rat))))):Option (Bool) :=
 bnd (ifb (p.1 != q.1)
 (some true)
 (some (((p.2.length:Int)) != ((q.2.length:Int)))))
 (fun (f:Bool) =>
 (ifb (f)
 (some false)
 (bnd (bnd (Z0 (fun s:Int=>match s with
 | a =>
 (ifb (decide (a<(p.2.length:Int)))
 (bnd (idx p.2 a) fun c =>
 bnd (idx q.2 a) fun g =>
 ifb (((c.length:Int)) != ((g.length:Int)))
 (some (.inr ((.inl false))))
 (bnd (bnd (Z0 (fun s:Int=>match s with
 | b =>
 (ifb (decide (b<(c.length:Int)))
 (bnd (idx c b) fun d =>
 bnd (idx q.2 a) fun h =>
 bnd (idx h b) fun e =>
 bnd (ifb (d.1 != e.1)
 (some true)
 (bnd (ZOe d.2.1 e.2.1) fun i =>
 ifb (!(i))
 (some true)
 (bnd (ZOe d.2.2 e.2.2) fun j =>
 some (!(j)))))
 (fun (k:Bool) =>
 (ifb (k)
 (some (.inr ((.inl false))))
 (bnd (chk .i64 (b+(1:Int))) fun l =>
 some (.inl l)))))
 (some (.inr ((.inr (()))))))) Z9 (0:Int))
 (fun (p:(Bool) ⊕ (Unit))=>match p with
 | .inl m =>
 (some ((.inr m)))
 | .inr (()) =>
 (some ((.inl (()))))))
 (fun (p:(Unit) ⊕ (Bool))=>match p with
 | .inl (()) =>
 (bnd (chk .i64 (a+(1:Int))) fun n =>
 some (.inl n))
 | .inr o =>
 (some (.inr ((.inl o)))))))
 (some (.inr ((.inr (()))))))) Z9 (0:Int))
 (fun (p:(Bool) ⊕ (Unit))=>match p with
 | .inl r =>
 (some ((.inr r)))
 | .inr (()) =>
 (some ((.inl (()))))))
 (fun (p:(Unit) ⊕ (Bool))=>match p with
 | .inl (()) =>
 (some true)
 | .inr t =>
 (some t)))))
noncomputable def Zdk (r:((List UInt8)×(List (List ((List UInt8)×(Int×Int)×(Int×Int)))))) (total:(Int×Int)) (pol:(List (List UInt8))):Option (Bool) :=
 bnd (Zhf ((r.1,r.2))) fun a =>
 bnd (ifb (!(a.2.2))
 (some true)
 (some (decide ((20:Int)<(pol.length:Int)))))
 (fun (k:Bool) =>
 (ifb (k)
 (bnd (Zgg ) fun l =>
 some l)
 (bnd (Znf ((a.1.1,a.1.2))) fun m =>
 bnd (Zgf ((a.2.1.1,a.2.1.2))) fun n =>
 ifb (m != n)
 (some false)
 (bnd (ZXe ((a.1.1,a.1.2))) fun b =>
 bnd (Zsf ((a.2.1.1,a.2.1.2))) fun c =>
 bnd (ifb (b.2.2 != c.2.2)
 (some true)
 (ifb (((b.1.length:Int)) != ((c.1.length:Int)))
 (some true)
 (bnd (ZOe b.2.1 c.2.1) fun o =>
 some (!(o)))))
 (fun (q:Bool) =>
 (ifb (q)
 (some false)
 (bnd (bnd (Z0 (fun s:Int=>match s with
 | d =>
 (ifb (decide (d<(b.1.length:Int)))
 (bnd (idx b.1 d) fun t =>
 bnd (idx c.1 d) fun u =>
 bnd (ZOe t u) fun v =>
 ifb (!(v))
 (some (.inr ((.inl false))))
 (bnd (chk .i64 (d+(1:Int))) fun w =>
 some (.inl w)))
 (some (.inr ((.inr (()))))))) Z9 (0:Int))
 (fun (p:(Bool) ⊕ (Unit))=>match p with
 | .inl x =>
 (some ((.inr x)))
 | .inr (()) =>
 (some ((.inl (()))))))
 (fun (p:(Unit) ⊕ (Bool))=>match p with
 | .inl (()) =>
 (bnd (bnd (Zuf ((total.1,total.2))) fun y =>
 bnd (ZDg ((a.1.1,a.1.2)) y) fun e =>
 some ((e.2,(e.1.1,e.1.2))))
 (fun (p:Int×((List UInt8)×(List (List ((List UInt8)×Rat×Rat)))))=>match p with
 | (z,g) =>
 (bnd (bnd (Zvf ((total.1,total.2))) fun A =>
 bnd (Z9f ((a.2.1.1,a.2.1.2)) A) fun f =>
 some ((f.2,(f.1.1,f.1.2))))
 (fun (p:Int×((List UInt8)×(List (List ((List UInt8)×Rat×Rat)))))=>match p with
 | (B,h) =>
 (bnd (ifb (z != B)
 (some true)
 (bnd (ZMg ((g.1,g.2)) ((h.1,h.2))) fun C =>
 some (!(C))))
 (fun (D:Bool) =>
 (ifb (D)
 (some false)
 (bnd (Zig ((a.1.1,a.1.2)) pol) fun i =>
 bnd (Zng ((a.2.1.1,a.2.1.2)) pol) fun j =>
 bnd (ifb (i.2==j.2)
 (bnd (Zjh i.1 j.1) fun E =>
 ifb (E)
 (bnd (Zgg ) fun F =>
 some F)
 (some false))
 (some false))
 (fun (G:Bool) =>
 (some G))))))))))
 | .inr H =>
 (some H)))))))))
set_option maxRecDepth 100000
theorem tot_out {r:RCP} (h:SzRc 7000 r):(ZPc r).1.length≤6∧(∀ i,(hi:i<(ZPc r).1.length)→sz 700000 (ZPc r).1[i])∧sz 700000 (ZPc r).2.1:=by
 unfold ZPc;by_cases c0:Z7a r≠0
 ·simp only [if_pos c0];exact ⟨by simp,fun i hi=>by simp at hi,ZKf.mono (by omega)⟩
 simp only [if_neg c0];have c0:=Decidable.not_not.1 c0;have n6:=Zie c0;refine ⟨by rw [List.length_map];exact n6,fun i hi=>?_,(ZEg h c0 _ (Nat.le_refl _)).mono (by omega)⟩;rw [List.length_map] at hi;obtain ⟨hz,h16⟩:=Zje h c0 hi;unfold gS at hz h16;rw [ZEb hi] at hz h16;rw [List.getElem_map];exact (Zzj hz h16).mono (by omega)
def Cmp (p:RCP):Prop:=p.2.length≤1000∧∀ l ∈ p.2,l.length≤1000∧∀ x ∈ l,sz 700000 x.2.1∧sz 700000 x.2.2
theorem scl_out {r:RCP} (h:SzRc 7000 r) {t:Rat} (ht:sz 64 t):Cmp (Zwe r t).1:=by
 unfold Zwe;by_cases c0:Z7a r≠0
 ·rw [if_pos c0];exact ⟨by simp,fun l hl=>by simp at hl⟩
 rw [if_neg c0];by_cases t0:t≤0
 ·rw [if_pos t0];exact ⟨by simp,fun l hl=>by simp at hl⟩
 rw [if_neg t0];have c0:=Decidable.not_not.1 c0;have n6:=Zie c0;have zf:=Zmh ht (ZEg h c0 _ (Nat.le_refl _));refine ⟨by simp only [List.length_map];omega,fun l hl=>?_⟩;obtain ⟨l0,hl0,rfl⟩:=List.mem_map.1 hl;obtain ⟨k,hk,rfl⟩:=List.getElem_of_mem hl0;obtain ⟨hz,h16⟩:=Zje h c0 hk;unfold gS at hz h16;rw [ZEb hk] at hz h16;refine ⟨by rw [List.length_map];omega,fun x hx=>?_⟩;obtain ⟨x0,hx0,rfl⟩:=List.mem_map.1 hx;have z:=hz x0 hx0;exact ⟨(Zjk z.2.1 zf).mono (by omega),(Zjk z.2.2 zf).mono (by omega)⟩
theorem ZSr {p:RCP} (h:Cmp p):ZMg p p=some true:=by
 unfold ZMg;simp only [bne_self_eq_false,ZI,Zh];refine ZAa (y:=.inl ()) (ZAa (y:=.inr ()) (Zpc (fun k=>(k:Int)) p.2.length rfl (by have:=h.1;omega) (fun k hk=>?_) ?_) rfl) rfl
 ·have hl:=h.1;obtain ⟨h1,h2⟩:=h.2 _ (List.getElem_mem hk)
  skip
  rw [decide_eq_true (by omega),ZJ,Zfa hk];simp only [Zh,bne_self_eq_false,ZI];refine ZAa (y:=.inl ()) (ZAa (y:=.inr ()) (Zpc (fun j=>(j:Int)) p.2[k].length rfl (by omega) (fun j hj=>?_) ?_) rfl) ?_
  ·have z:=h2 _ (List.getElem_mem hj)
   skip
   rw [decide_eq_true (by omega),ZJ,Zfa hj];simp only [Zh,bne_self_eq_false,ZI];rw [Zfh z.1 (by omega),Zh];simp only [Bool.not_true,ZI];rw [Zfh z.2 (by omega),Zh];simp only [Bool.not_true,ZI,Zh];rw [Zma (by omega) (by omega),Zh];rfl
  ·skip
   rw [decide_eq_false (by omega),ZI]
  ·simp only;rw [Zma (by omega) (by omega),Zh];rfl
 ·skip
  rw [decide_eq_false (by have:=h.1;omega),ZI]
theorem Zvq {p:List AM} (h:p.length≤96) (hz:∀ j,j<p.length→sz (((7000+1)*96+2)*17+200) (gA p j).2):Zjh p p=some true:=by
 unfold Zjh;simp only [bne_self_eq_false,ZI];refine ZAa (y:=.inl ()) (ZAa (y:=.inr ()) (Zpc (fun k=>(k:Int)) p.length rfl (by omega) (fun k hk=>?_) ?_) rfl) rfl
 ·skip
  rw [decide_eq_true (by omega),ZJ,ZLg hk];simp only [Zh,bne_self_eq_false,ZI];rw [Zfh (hz k hk) (by omega),Zh];simp only [Bool.not_true,ZI,Zh];rw [Zma (by omega) (by omega),Zh];rfl
 ·skip
  rw [decide_eq_false (by omega),ZI]
theorem ZZo (r:RawR) (total:Int×Int) (pol:List BS) (h:SzRaw r) (ht:i64 total):Zdk r total pol=some true:=by
 unfold Zdk;rcases Z6o r with ⟨A,B,e⟩ | e
 ·rw [show Zhf (r.1,r.2)=some (A,B,false) from e,Zh];simp only [Bool.not_false,ZJ,Zh];rw [Zrl,Zh]
 rw [show Zhf (r.1,r.2)=some (toRc r,toRc r,true) from e,Zh];simp only [Bool.not_true,ZI,Zh];by_cases h20:(20:Int)<pol.length
 ·rw [decide_eq_true h20,ZJ,Zrl,Zh]
 rw [decide_eq_false h20,ZI];have hrc:=h.rc.mono (show 64≤7000 by omega);have zt:sz 64 (ZVc total):=ZMk ht;generalize toRc r=R at hrc;obtain ⟨t1,t2,t3⟩:=tot_out hrc;obtain ⟨p1,p2⟩:=prt_sz hrc pol;rw [show Znf (R.1,R.2)=some (Z7a R) from ZSl hrc,Zh,show Zgf (R.1,R.2)=some (Z7a R) from Zql hrc,Zh];simp only [bne_self_eq_false,ZI];rw [show ZXe (R.1,R.2)=some (ZPc R) from Zqm hrc,Zh,show Zsf (R.1,R.2)=some (ZPc R) from Zrm hrc,Zh];simp only [bne_self_eq_false,ZI];rw [Zfh t3 (by omega),Zh];simp only [Bool.not_true,ZI,Zh];refine ZAa (y:=.inl ()) (ZAa (y:=.inr ()) (Zpc (fun k=>(k:Int)) (ZPc R).1.length rfl (by omega) (fun k hk=>?_) ?_) rfl) ?_
 ·skip
  rw [decide_eq_true (by omega),ZJ,Zfa hk];simp only [Zh];rw [Zfh (t2 k hk) (by omega),Zh];simp only [Bool.not_true,ZI,Zh];rw [Zma (by omega) (by omega),Zh];rfl
 ·skip
  rw [decide_eq_false (by omega),ZI]
 simp only;unfold Zuf Zvf;rw [Zh,Zh,show ZVc (total.1,total.2)=ZVc total from rfl,show ZDg (R.1,R.2) (ZVc total)=some (Zwe R (ZVc total)) from ZMo hrc zt,show Z9f (R.1,R.2) (ZVc total)=some (Zwe R (ZVc total)) from Zap hrc zt];simp only [Zh,bne_self_eq_false,ZI];have zc:=scl_out hrc zt;generalize (Zwe R (ZVc total)).1=S at zc;rw [show ZMg (S.1,S.2) (S.1,S.2)=some true from ZSr zc,Zh];simp only [Bool.not_true,Zh,ZI];rw [show Zig (R.1,R.2) pol=some (Z8d R pol) from Znp hrc pol,Zh,show Zng (R.1,R.2) pol=some (Z8d R pol) from Z6r hrc pol,Zh];simp only [beq_self_eq_true,ZJ];rw [Zvq p1 p2,Zh,ZJ,Zrl];rfl
theorem Zmo {α:Type} {A:Rep α} {v:Zb} {cs:List Value} {l:List α} (h:(Zu A).rel v cs l) {x:α} (hx:x ∈ l):∃ c,A.rel v c x:=by
 obtain ⟨q,cap,rfl,h1,h2,h3⟩:=h;rcases h3 with rfl | ⟨b,off,c,T,fr,e,hb,hr⟩
 ·cases hx
 ·obtain ⟨i,hi,rfl⟩:=List.getElem_of_mem hx;exact ⟨_,ZCa hr (List.getElem?_eq_getElem hi)⟩
theorem ZDl {v:Zb} {c:List Value} {r:Int×Int} (h:Rep.rel (Zi (Ze .i64) (Ze .i64)) v c r):i64 r:=by
 obtain ⟨c1,c2,_,⟨_,h1⟩,_,h2⟩:=h;exact ⟨Zrc.1 h1,Zrc.1 h2⟩
end Go.Eng
namespace Go.Eng
open Go.RowKit Go.WideShapes Go.ChangeShapes
theorem Zys {P:Program} {t:TypeId} (ht:P.underlying t=some .string):Zyc P t Zo:=by
 intro H enc W fuel cs x h
 cases fuel with
 | zero=>simp [DataW.trod] at h
 | succ n =>
  unfold DataW.trod at h;rw [ht] at h;split at h
  all_goals first | (rename_i s heq;cases heq;split at h <;> first | (exact ⟨s.data.toList,rfl,by rename_i hs;exact hs⟩) | cases h) | (rename_i heq;cases heq) | (rename_i heq _;cases heq) | (simp at *) | cases h
theorem Zcr {P:Program} {t:TypeId} {f0 f1 f2:Field} {α β γ:Type} {A:Rep α} {B:Rep β} {C:Rep γ} (ht:P.underlying t=some (.struct #[f0,f1,f2])) (hA:Zyc P f0.type A) (hB:Zyc P f1.type B) (hC:Zyc P f2.type C)
  (o0:f0.offset=0) (c0:P.cellsOf f0.type=A.n) (o1:f1.offset=A.n) (c1:P.cellsOf f1.type=B.n) (o2:f2.offset=A.n+B.n) (c2:P.cellsOf f2.type=C.n) (ct:P.cellsOf t=A.n+B.n+C.n):Zyc P t (Zi A (Zi B C)):=by
 intro H enc W fuel cs x h;obtain ⟨xs,n,_,_,hl,hx,hf⟩:=DataW.trod_struct ht h;have hx:xs.length=3:=hx;have h0:=hf 0 f0 rfl;have h1:=hf 1 f1 rfl;have h2:=hf 2 f2 rfl;rw [List.getElem?_eq_getElem (by omega)] at h0 h1 h2;rw [o0,c0,List.drop_zero] at h0;rw [o1,c1] at h1;rw [o2,c2] at h2;obtain ⟨a,ha⟩:=hA _ _ _ _ _ _ h0;obtain ⟨b,hb⟩:=hB _ _ _ _ _ _ h1;obtain ⟨c,hc⟩:=hC _ _ _ _ _ _ h2;rw [List.take_of_length_le (by rw [List.length_drop,hl,ct];omega)] at hc;refine ⟨(a,b,c),cs.take A.n,cs.drop A.n,(List.take_append_drop _ _).symm,ha,(cs.drop A.n).take B.n,cs.drop (A.n+B.n),?_,hb,hc⟩;rw [← List.drop_drop,List.take_append_drop]
end Go.Eng
namespace Go.Eng
open Go.RowKit
theorem Zc {α:Type _} {a b:α} (h:some a=some b):a=b:=Option.some.inj h
theorem Zx (b:Bool):b=true∨b=false:=(Bool.eq_false_or_eq_true b)
theorem leT {a b c:Zb} (h:a.le b) (k:b.le c):a.le c:=Zb.le_trans h k
theorem leR (v:Zb):v.le v:=Zb.le_refl v
theorem bO {α β:Type _} {x:Option α} {f:α→Option β} {z:β} {G:Prop} (h:bnd x f=some z) (k:∀ y,x=some y→f y=some z→G):G:=by obtain ⟨y,e,h⟩:=ZD h;exact k y e h
theorem Zn {P:Program} {Q:Exit→Act→World→Prop} {a:Act} {w:World} {id:Nat} {l:List Oper} (h:wpList P l.toArray Q l a w):(Code.region id l.toArray false).wp P Q a w:=wp_region_lit h
theorem Zg {P:Program} {Q:Exit→Act→World→Prop} {a:Act} {w:World} {x y:Code} (h:∀ K:Act→World→Prop,(∀ a w,y.wp P Q a w→K a w)→x.wp P (Exit.then K Q) a w):(Code.seq x y).wp P Q a w:=wp_seq_k h
theorem Zp {α:Type} {A:Rep α} {v v':Zb} {cs:List Value} {x:α} (hv:v.le v') (h:A.rel v cs x):A.rel v' cs x:=A.mono hv h
theorem Zga {α:Type} (A:Rep α) {v:Zb} {cs:List Value} {x:α} (h:A.rel v cs x):cs.all Z0a=true:=A.flat h
theorem Atm {v v':Zb} {b off:Nat} {cs:List Value} (h:v.le v') (k:At v b off cs):At v' b off cs:=At.mono h k
end Go.Eng
namespace Go.Eng
open Go.Proofs Go.RowKit
theorem ZUn:ArrOf Tryz.prog 255 20 1:=⟨5,fun _=>by kernel_rfl,fun _=>by kernel_rfl⟩
theorem ZId:Zce Tryz.prog 184 185 .u64 .u32:=fun _ _=>by kernel_rfl
theorem Zko:Zce Tryz.prog 184 3 .u64 .i64:=fun _ _=>by kernel_rfl
theorem Zdo:Zce Tryz.prog 184 5 .u64 .u8:=fun _ _=>by kernel_rfl
theorem Z1c:Zce Tryz.prog 185 184 .u32 .u64:=fun _ _=>by kernel_rfl
theorem Zum:Zce Tryz.prog 185 2 .u32 .i64:=fun _ _=>by kernel_rfl
theorem Zlj:Zce Tryz.prog 2 184 .i64 .u64:=fun _ _=>by kernel_rfl
theorem ZTo:Zce Tryz.prog 2 185 .i64 .u32:=fun _ _=>by kernel_rfl
theorem Zzq:Zce Tryz.prog 3 184 .i64 .u64:=fun _ _=>by kernel_rfl
theorem Z1k:Zce Tryz.prog 3 222 .i64 .u64:=fun _ _=>by kernel_rfl
theorem k_cv5_3:Zce Tryz.prog 5 3 .u8 .i64:=fun _ _=>by kernel_rfl
theorem k_el100:Elem Tryz.prog 100 143 6 112 (Value.agg #[Value.bool false,Value.slice none 0 0,Value.slice none 0 0,Value.bool false,Value.slice none 0 0,Value.slice none 0 0]):=⟨Tryz.underlying100,by kernel_rfl,rfl,by decide⟩
theorem Zli:Elem Tryz.prog 132 134 7 128 (Value.agg #[Value.string (Zf []),Value.bool false,Value.slice none 0 0,Value.slice none 0 0,Value.bool false,Value.slice none 0 0,Value.slice none 0 0]):=⟨Tryz.underlying132,by kernel_rfl,rfl,by decide⟩
theorem Z1h:Elem Tryz.prog 139 141 7 128 (Value.agg #[Value.string (Zf []),Value.bool false,Value.slice none 0 0,Value.slice none 0 0,Value.bool false,Value.slice none 0 0,Value.slice none 0 0]):=⟨Tryz.underlying139,by kernel_rfl,rfl,by decide⟩
theorem ZYn:Elem Tryz.prog 210 233 6 112 (Value.agg #[Value.bool false,Value.slice none 0 0,Value.slice none 0 0,Value.bool false,Value.slice none 0 0,Value.slice none 0 0]):=⟨Tryz.underlying210,by kernel_rfl,rfl,by decide⟩
theorem ZAl:Elem Tryz.prog 26 132 1 24 (Value.slice none 0 0):=⟨Tryz.underlying26,by kernel_rfl,rfl,by decide⟩
theorem Zdm:Elem Tryz.prog 29 139 1 24 (Value.slice none 0 0):=⟨Tryz.underlying29,by kernel_rfl,rfl,by decide⟩
theorem ZHn:Elem Tryz.prog 35 49 4 72 (Value.agg #[Value.string (Zf []),Value.bool false,Value.slice none 0 0,Value.slice none 0 0]):=⟨Tryz.underlying35,by kernel_rfl,rfl,by decide⟩
theorem Z3n:Elem Tryz.prog 36 55 4 72 (Value.agg #[Value.string (Zf []),Value.bool false,Value.slice none 0 0,Value.slice none 0 0]):=⟨Tryz.underlying36,by kernel_rfl,rfl,by decide⟩
theorem Z9c:Elem Tryz.prog 42 184 1 8 (Value.int IntKind.u64 0):=⟨Tryz.underlying42,by kernel_rfl,rfl,by decide⟩
theorem ZWb:Elem Tryz.prog 50 185 1 4 (Value.int IntKind.u32 0):=⟨Tryz.underlying50,by kernel_rfl,rfl,by decide⟩
theorem Zjo:Elem Tryz.prog 69 9 1 16 (Value.string (Zf [])):=⟨Tryz.underlying69,by kernel_rfl,rfl,by decide⟩
theorem ZBn:Elem Tryz.prog 72 46 3 56 (Value.agg #[Value.bool false,Value.slice none 0 0,Value.slice none 0 0]):=⟨Tryz.underlying72,by kernel_rfl,rfl,by decide⟩
theorem ZQh:Elem Tryz.prog 75 52 3 56 (Value.agg #[Value.bool false,Value.slice none 0 0,Value.slice none 0 0]):=⟨Tryz.underlying75,by kernel_rfl,rfl,by decide⟩
theorem ZXj:ZX Tryz.prog 10:=fun _ _=>by kernel_rfl
theorem ZYm:ZX Tryz.prog 100:=fun _ _=>by kernel_rfl
theorem k_en101:ZX Tryz.prog 101:=fun _ _=>by kernel_rfl
theorem k_en102:ZX Tryz.prog 102:=fun _ _=>by kernel_rfl
theorem Zjf:ZX Tryz.prog 103:=fun _ _=>by kernel_rfl
theorem Zre:ZX Tryz.prog 104:=fun _ _=>by kernel_rfl
theorem k_en105:ZX Tryz.prog 105:=fun _ _=>by kernel_rfl
theorem Zsk:ZX Tryz.prog 106:=fun _ _=>by kernel_rfl
theorem k_en107:ZX Tryz.prog 107:=fun _ _=>by kernel_rfl
theorem k_en108:ZX Tryz.prog 108:=fun _ _=>by kernel_rfl
theorem k_en109:ZX Tryz.prog 109:=fun _ _=>by kernel_rfl
theorem k_en110:ZX Tryz.prog 110:=fun _ _=>by kernel_rfl
theorem k_en111:ZX Tryz.prog 111:=fun _ _=>by kernel_rfl
theorem Z9k:ZX Tryz.prog 112:=fun _ _=>by kernel_rfl
theorem ZNe:ZX Tryz.prog 113:=fun _ _=>by kernel_rfl
theorem Zoe:ZX Tryz.prog 114:=fun _ _=>by kernel_rfl
theorem k_en115:ZX Tryz.prog 115:=fun _ _=>by kernel_rfl
theorem ZYj:ZX Tryz.prog 116:=fun _ _=>by kernel_rfl
theorem Z4l:ZX Tryz.prog 117:=fun _ _=>by kernel_rfl
theorem k_en119:ZX Tryz.prog 119:=fun _ _=>by kernel_rfl
theorem Z7l:ZX Tryz.prog 120:=fun _ _=>by kernel_rfl
theorem ZEn:ZX Tryz.prog 121:=fun _ _=>by kernel_rfl
theorem ZPm:ZX Tryz.prog 122:=fun _ _=>by kernel_rfl
theorem Ztn:ZX Tryz.prog 123:=fun _ _=>by kernel_rfl
theorem k_en124:ZX Tryz.prog 124:=fun _ _=>by kernel_rfl
theorem k_en125:ZX Tryz.prog 125:=fun _ _=>by kernel_rfl
theorem ZOl:ZX Tryz.prog 126:=fun _ _=>by kernel_rfl
theorem Zto:ZX Tryz.prog 127:=fun _ _=>by kernel_rfl
theorem k_en128:ZX Tryz.prog 128:=fun _ _=>by kernel_rfl
theorem k_en129:ZX Tryz.prog 129:=fun _ _=>by kernel_rfl
theorem Zwg:ZX Tryz.prog 13:=fun _ _=>by kernel_rfl
theorem k_en130:ZX Tryz.prog 130:=fun _ _=>by kernel_rfl
theorem k_en131:ZX Tryz.prog 131:=fun _ _=>by kernel_rfl
theorem k_en132:ZX Tryz.prog 132:=fun _ _=>by kernel_rfl
theorem ZZm:ZX Tryz.prog 133:=fun _ _=>by kernel_rfl
theorem k_en134:ZX Tryz.prog 134:=fun _ _=>by kernel_rfl
theorem k_en135:ZX Tryz.prog 135:=fun _ _=>by kernel_rfl
theorem Z1m:ZX Tryz.prog 136:=fun _ _=>by kernel_rfl
theorem Z2j:ZX Tryz.prog 137:=fun _ _=>by kernel_rfl
theorem k_en138:ZX Tryz.prog 138:=fun _ _=>by kernel_rfl
theorem k_en139:ZX Tryz.prog 139:=fun _ _=>by kernel_rfl
theorem ZMl:ZX Tryz.prog 14:=fun _ _=>by kernel_rfl
theorem k_en141:ZX Tryz.prog 141:=fun _ _=>by kernel_rfl
theorem Zgn:ZX Tryz.prog 142:=fun _ _=>by kernel_rfl
theorem k_en148:ZX Tryz.prog 148:=fun _ _=>by kernel_rfl
theorem k_en149:ZX Tryz.prog 149:=fun _ _=>by kernel_rfl
theorem Z6k:ZX Tryz.prog 15:=fun _ _=>by kernel_rfl
theorem Zck:ZX Tryz.prog 150:=fun _ _=>by kernel_rfl
theorem Zbi:ZX Tryz.prog 151:=fun _ _=>by kernel_rfl
theorem k_en152:ZX Tryz.prog 152:=fun _ _=>by kernel_rfl
theorem k_en153:ZX Tryz.prog 153:=fun _ _=>by kernel_rfl
theorem Zun:ZX Tryz.prog 158:=fun _ _=>by kernel_rfl
theorem ZLm:ZX Tryz.prog 16:=fun _ _=>by kernel_rfl
theorem k_en160:ZX Tryz.prog 160:=fun _ _=>by kernel_rfl
theorem k_en162:ZX Tryz.prog 162:=fun _ _=>by kernel_rfl
theorem Z9n:ZX Tryz.prog 166:=fun _ _=>by kernel_rfl
theorem k_en167:ZX Tryz.prog 167:=fun _ _=>by kernel_rfl
theorem Zvm:ZX Tryz.prog 168:=fun _ _=>by kernel_rfl
theorem Zom:ZX Tryz.prog 17:=fun _ _=>by kernel_rfl
theorem Z6l:ZX Tryz.prog 18:=fun _ _=>by kernel_rfl
theorem ZZl:ZX Tryz.prog 19:=fun _ _=>by kernel_rfl
theorem k_en20:ZX Tryz.prog 20:=fun _ _=>by kernel_rfl
theorem k_en21:ZX Tryz.prog 21:=fun _ _=>by kernel_rfl
theorem k_en22:ZX Tryz.prog 22:=fun _ _=>by kernel_rfl
theorem Zsm:ZX Tryz.prog 23:=fun _ _=>by kernel_rfl
theorem Zcd:ZX Tryz.prog 31:=fun _ _=>by kernel_rfl
theorem k_en34:ZX Tryz.prog 34:=fun _ _=>by kernel_rfl
theorem Zde:ZX Tryz.prog 38:=fun _ _=>by kernel_rfl
theorem Z1d:ZX Tryz.prog 40:=fun _ _=>by kernel_rfl
theorem k_en41:ZX Tryz.prog 41:=fun _ _=>by kernel_rfl
theorem k_en42:ZX Tryz.prog 42:=fun _ _=>by kernel_rfl
theorem k_en43:ZX Tryz.prog 43:=fun _ _=>by kernel_rfl
theorem ZQf:ZX Tryz.prog 44:=fun _ _=>by kernel_rfl
theorem k_en45:ZX Tryz.prog 45:=fun _ _=>by kernel_rfl
theorem k_en46:ZX Tryz.prog 46:=fun _ _=>by kernel_rfl
theorem k_en47:ZX Tryz.prog 47:=fun _ _=>by kernel_rfl
theorem k_en48:ZX Tryz.prog 48:=fun _ _=>by kernel_rfl
theorem Zwd:ZX Tryz.prog 50:=fun _ _=>by kernel_rfl
theorem Zuh:ZX Tryz.prog 52:=fun _ _=>by kernel_rfl
theorem k_en53:ZX Tryz.prog 53:=fun _ _=>by kernel_rfl
theorem k_en54:ZX Tryz.prog 54:=fun _ _=>by kernel_rfl
theorem ZOf:ZX Tryz.prog 55:=fun _ _=>by kernel_rfl
theorem Z2h:ZX Tryz.prog 56:=fun _ _=>by kernel_rfl
theorem k_en57:ZX Tryz.prog 57:=fun _ _=>by kernel_rfl
theorem Zim:ZX Tryz.prog 59:=fun _ _=>by kernel_rfl
theorem k_en60:ZX Tryz.prog 60:=fun _ _=>by kernel_rfl
theorem k_en61:ZX Tryz.prog 61:=fun _ _=>by kernel_rfl
theorem Zxm:ZX Tryz.prog 62:=fun _ _=>by kernel_rfl
theorem Z8c:ZX Tryz.prog 63:=fun _ _=>by kernel_rfl
theorem ZCf:ZX Tryz.prog 64:=fun _ _=>by kernel_rfl
theorem Zpm:ZX Tryz.prog 65:=fun _ _=>by kernel_rfl
theorem ZRl:ZX Tryz.prog 66:=fun _ _=>by kernel_rfl
theorem k_en67:ZX Tryz.prog 67:=fun _ _=>by kernel_rfl
theorem ZFo:ZX Tryz.prog 68:=fun _ _=>by kernel_rfl
theorem k_en69:ZX Tryz.prog 69:=fun _ _=>by kernel_rfl
theorem k_en7:ZX Tryz.prog 7:=fun _ _=>by kernel_rfl
theorem k_en70:ZX Tryz.prog 70:=fun _ _=>by kernel_rfl
theorem ZTn:ZX Tryz.prog 71:=fun _ _=>by kernel_rfl
theorem Z8j:ZX Tryz.prog 72:=fun _ _=>by kernel_rfl
theorem ZAe:ZX Tryz.prog 73:=fun _ _=>by kernel_rfl
theorem Zmj:ZX Tryz.prog 74:=fun _ _=>by kernel_rfl
theorem k_en76:ZX Tryz.prog 76:=fun _ _=>by kernel_rfl
theorem Zog:ZX Tryz.prog 78:=fun _ _=>by kernel_rfl
theorem k_en8:ZX Tryz.prog 8:=fun _ _=>by kernel_rfl
theorem Z6g:ZX Tryz.prog 80:=fun _ _=>by kernel_rfl
theorem Zah:ZX Tryz.prog 81:=fun _ _=>by kernel_rfl
theorem ZGe:ZX Tryz.prog 82:=fun _ _=>by kernel_rfl
theorem Zvo:ZX Tryz.prog 83:=fun _ _=>by kernel_rfl
theorem Zwh:ZX Tryz.prog 84:=fun _ _=>by kernel_rfl
theorem Z3e:ZX Tryz.prog 85:=fun _ _=>by kernel_rfl
theorem k_en89:ZX Tryz.prog 89:=fun _ _=>by kernel_rfl
theorem ZDj:ZX Tryz.prog 9:=fun _ _=>by kernel_rfl
theorem k_en90:ZX Tryz.prog 90:=fun _ _=>by kernel_rfl
theorem ZIi:ZX Tryz.prog 92:=fun _ _=>by kernel_rfl
theorem ZHl:ZX Tryz.prog 93:=fun _ _=>by kernel_rfl
theorem ZGf:ZX Tryz.prog 94:=fun _ _=>by kernel_rfl
theorem Zrh:ZX Tryz.prog 95:=fun _ _=>by kernel_rfl
theorem k_en96:ZX Tryz.prog 96:=fun _ _=>by kernel_rfl
theorem k_en97:ZX Tryz.prog 97:=fun _ _=>by kernel_rfl
theorem k_en98:ZX Tryz.prog 98:=fun _ _=>by kernel_rfl
theorem k_en99:ZX Tryz.prog 99:=fun _ _=>by kernel_rfl
theorem Zxn:EqB Tryz.prog 4:=fun _ _ _=>by kernel_rfl
theorem Zdi:Zfe Tryz.prog 118 add64Entry:=⟨_,Tryz.func118,by kernel_rfl,by kernel_rfl,by kernel_rfl,by kernel_rfl⟩
theorem Zio:Zfe Tryz.prog 140 Z3l:=⟨_,Tryz.func140,by kernel_rfl,by kernel_rfl,by kernel_rfl,by kernel_rfl⟩
theorem Zsh:Zfe Tryz.prog 164 Extern.MathFloatBits.float64frombits:=⟨_,Tryz.func164,by kernel_rfl,by kernel_rfl,by kernel_rfl,by kernel_rfl⟩
theorem ZIh:Zfe Tryz.prog 165 Extern.MathFloatBits.float64bits:=⟨_,Tryz.func165,by kernel_rfl,by kernel_rfl,by kernel_rfl,by kernel_rfl⟩
theorem Z0n:Zab Tryz.prog 102 0 0:=fun _ _ _=>by kernel_rfl
theorem ZRj:Zab Tryz.prog 102 1 3:=fun _ _ _=>by kernel_rfl
theorem ZZd:Zab Tryz.prog 134 0 0:=fun _ _ _=>by kernel_rfl
theorem Zle:Zab Tryz.prog 134 1 1:=fun _ _ _=>by kernel_rfl
theorem Zvg:Zab Tryz.prog 134 2 4:=fun _ _ _=>by kernel_rfl
theorem Zae:Zab Tryz.prog 138 0 0:=fun _ _ _=>by kernel_rfl
theorem ZWg:Zab Tryz.prog 138 1 1:=fun _ _ _=>by kernel_rfl
theorem Zbf:Zab Tryz.prog 138 2 3:=fun _ _ _=>by kernel_rfl
theorem ZYd:Zab Tryz.prog 141 0 0:=fun _ _ _=>by kernel_rfl
theorem Zve:Zab Tryz.prog 141 1 1:=fun _ _ _=>by kernel_rfl
theorem Zyg:Zab Tryz.prog 141 2 4:=fun _ _ _=>by kernel_rfl
theorem Zxg:Zab Tryz.prog 143 0 0:=fun _ _ _=>by kernel_rfl
theorem Zyk:Zab Tryz.prog 143 1 3:=fun _ _ _=>by kernel_rfl
theorem Ztq:Zab Tryz.prog 149 0 0:=fun _ _ _=>by kernel_rfl
theorem ZQr:Zab Tryz.prog 149 1 1:=fun _ _ _=>by kernel_rfl
theorem ZKc:Zab Tryz.prog 233 0 0:=fun _ _ _=>by kernel_rfl
theorem ZJc:Zab Tryz.prog 233 1 3:=fun _ _ _=>by kernel_rfl
theorem ZMd:Zab Tryz.prog 24 0 0:=fun _ _ _=>by kernel_rfl
theorem Z5j:Zab Tryz.prog 24 1 1:=fun _ _ _=>by kernel_rfl
theorem ZJj:Zab Tryz.prog 28 0 0:=fun _ _ _=>by kernel_rfl
theorem Zcc:Zab Tryz.prog 28 1 1:=fun _ _ _=>by kernel_rfl
theorem Z7e:Zab Tryz.prog 31 0 0:=fun _ _ _=>by kernel_rfl
theorem ZLa:Zab Tryz.prog 31 1 1:=fun _ _ _=>by kernel_rfl
theorem ZFj:Zab Tryz.prog 38 0 0:=fun _ _ _=>by kernel_rfl
theorem Zhj:Zab Tryz.prog 38 1 1:=fun _ _ _=>by kernel_rfl
theorem ZZb:Zab Tryz.prog 44 0 0:=fun _ _ _=>by kernel_rfl
theorem ZAb:Zab Tryz.prog 44 1 1:=fun _ _ _=>by kernel_rfl
theorem Zmc:Zab Tryz.prog 46 0 0:=fun _ _ _=>by kernel_rfl
theorem Zxc:Zab Tryz.prog 46 1 2:=fun _ _ _=>by kernel_rfl
theorem Z1j:Zab Tryz.prog 49 0 0:=fun _ _ _=>by kernel_rfl
theorem Zpg:Zab Tryz.prog 49 1 1:=fun _ _ _=>by kernel_rfl
theorem Z6a:Zab Tryz.prog 52 0 0:=fun _ _ _=>by kernel_rfl
theorem ZEc:Zab Tryz.prog 52 1 1:=fun _ _ _=>by kernel_rfl
theorem Zwl:Zab Tryz.prog 52 2 2:=fun _ _ _=>by kernel_rfl
theorem Zbm:Zab Tryz.prog 55 0 0:=fun _ _ _=>by kernel_rfl
theorem ZEf:Zab Tryz.prog 55 1 1:=fun _ _ _=>by kernel_rfl
theorem Zea:Tryz.prog.follows .mixedOrders=true:=by kernel_rfl
theorem Z7c:NeB Tryz.prog 4:=fun _ _ _=>by kernel_rfl
theorem ZOg:ZXb Tryz.prog 100 143 6:=⟨fun _=>by kernel_rfl,fun _=>by kernel_rfl⟩
theorem ZFc:ZXb Tryz.prog 132 134 7:=⟨fun _=>by kernel_rfl,fun _=>by kernel_rfl⟩
theorem ZGk:ZXb Tryz.prog 136 138 5:=⟨fun _=>by kernel_rfl,fun _=>by kernel_rfl⟩
theorem ZQb:ZXb Tryz.prog 139 141 7:=⟨fun _=>by kernel_rfl,fun _=>by kernel_rfl⟩
theorem ZWh:ZXb Tryz.prog 150 149 2:=⟨fun _=>by kernel_rfl,fun _=>by kernel_rfl⟩
theorem Zad:ZXb Tryz.prog 210 233 6:=⟨fun _=>by kernel_rfl,fun _=>by kernel_rfl⟩
theorem ZRn:ZXb Tryz.prog 216 5 1:=⟨fun _=>by kernel_rfl,fun _=>by kernel_rfl⟩
theorem ZKh:ZXb Tryz.prog 22 136 1:=⟨fun _=>by kernel_rfl,fun _=>by kernel_rfl⟩
theorem ZMc:ZXb Tryz.prog 26 132 1:=⟨fun _=>by kernel_rfl,fun _=>by kernel_rfl⟩
theorem Z4a:ZXb Tryz.prog 29 139 1:=⟨fun _=>by kernel_rfl,fun _=>by kernel_rfl⟩
theorem Zod:ZXb Tryz.prog 35 49 4:=⟨fun _=>by kernel_rfl,fun _=>by kernel_rfl⟩
theorem Zkd:ZXb Tryz.prog 36 55 4:=⟨fun _=>by kernel_rfl,fun _=>by kernel_rfl⟩
theorem Z4:ZXb Tryz.prog 42 184 1:=⟨fun _=>by kernel_rfl,fun _=>by kernel_rfl⟩
theorem Zta:ZXb Tryz.prog 50 185 1:=⟨fun _=>by kernel_rfl,fun _=>by kernel_rfl⟩
theorem ZYc:ZXb Tryz.prog 69 9 1:=⟨fun _=>by kernel_rfl,fun _=>by kernel_rfl⟩
theorem Ztk:ZXb Tryz.prog 72 46 3:=⟨fun _=>by kernel_rfl,fun _=>by kernel_rfl⟩
theorem ZHf:ZXb Tryz.prog 75 52 3:=⟨fun _=>by kernel_rfl,fun _=>by kernel_rfl⟩
theorem ZEj:Sized Tryz.prog 100 1 false:=⟨fun _=>by kernel_rfl,fun _=>by kernel_rfl⟩
theorem Z4e:Sized Tryz.prog 102 4 true:=⟨fun _=>by kernel_rfl,fun _=>by kernel_rfl⟩
theorem Zlf:Sized Tryz.prog 132 1 false:=⟨fun _=>by kernel_rfl,fun _=>by kernel_rfl⟩
theorem ZRd:Sized Tryz.prog 134 7 true:=⟨fun _=>by kernel_rfl,fun _=>by kernel_rfl⟩
theorem k_sz136:Sized Tryz.prog 136 1 false:=⟨fun _=>by kernel_rfl,fun _=>by kernel_rfl⟩
theorem Z0m:Sized Tryz.prog 138 5 true:=⟨fun _=>by kernel_rfl,fun _=>by kernel_rfl⟩
theorem ZAc:Sized Tryz.prog 139 1 false:=⟨fun _=>by kernel_rfl,fun _=>by kernel_rfl⟩
theorem ZTg:Sized Tryz.prog 141 7 true:=⟨fun _=>by kernel_rfl,fun _=>by kernel_rfl⟩
theorem Z9j:Sized Tryz.prog 143 6 true:=⟨fun _=>by kernel_rfl,fun _=>by kernel_rfl⟩
theorem Z7m:Sized Tryz.prog 147 1 false:=⟨fun _=>by kernel_rfl,fun _=>by kernel_rfl⟩
theorem Z4m:Sized Tryz.prog 149 2 true:=⟨fun _=>by kernel_rfl,fun _=>by kernel_rfl⟩
theorem ZOa:Sized Tryz.prog 184 1 false:=⟨fun _=>by kernel_rfl,fun _=>by kernel_rfl⟩
theorem ZKb:Sized Tryz.prog 185 1 false:=⟨fun _=>by kernel_rfl,fun _=>by kernel_rfl⟩
theorem Z2e:Sized Tryz.prog 2 1 false:=⟨fun _=>by kernel_rfl,fun _=>by kernel_rfl⟩
theorem ZGj:Sized Tryz.prog 22 1 false:=⟨fun _=>by kernel_rfl,fun _=>by kernel_rfl⟩
theorem ZIc:Sized Tryz.prog 233 6 true:=⟨fun _=>by kernel_rfl,fun _=>by kernel_rfl⟩
theorem k_sz24:Sized Tryz.prog 24 2 true:=⟨fun _=>by kernel_rfl,fun _=>by kernel_rfl⟩
theorem Z7b:Sized Tryz.prog 26 1 false:=⟨fun _=>by kernel_rfl,fun _=>by kernel_rfl⟩
theorem Z8a:Sized Tryz.prog 28 2 true:=⟨fun _=>by kernel_rfl,fun _=>by kernel_rfl⟩
theorem ZKa:Sized Tryz.prog 29 1 false:=⟨fun _=>by kernel_rfl,fun _=>by kernel_rfl⟩
theorem ZZa:Sized Tryz.prog 31 2 true:=⟨fun _=>by kernel_rfl,fun _=>by kernel_rfl⟩
theorem Z4b:Sized Tryz.prog 38 2 true:=⟨fun _=>by kernel_rfl,fun _=>by kernel_rfl⟩
theorem Zwa:Sized Tryz.prog 4 1 false:=⟨fun _=>by kernel_rfl,fun _=>by kernel_rfl⟩
theorem ZTa:Sized Tryz.prog 42 1 false:=⟨fun _=>by kernel_rfl,fun _=>by kernel_rfl⟩
theorem ZYa:Sized Tryz.prog 44 2 true:=⟨fun _=>by kernel_rfl,fun _=>by kernel_rfl⟩
theorem Zz:Sized Tryz.prog 46 3 true:=⟨fun _=>by kernel_rfl,fun _=>by kernel_rfl⟩
theorem ZTi:Sized Tryz.prog 49 4 true:=⟨fun _=>by kernel_rfl,fun _=>by kernel_rfl⟩
theorem k_sz5:Sized Tryz.prog 5 1 false:=⟨fun _=>by kernel_rfl,fun _=>by kernel_rfl⟩
theorem Zhc:Sized Tryz.prog 50 1 false:=⟨fun _=>by kernel_rfl,fun _=>by kernel_rfl⟩
theorem ZW:Sized Tryz.prog 52 3 true:=⟨fun _=>by kernel_rfl,fun _=>by kernel_rfl⟩
theorem Zqa:Sized Tryz.prog 9 1 false:=⟨fun _=>by kernel_rfl,fun _=>by kernel_rfl⟩
theorem k_zv102:∀ w,(zeroValue 102).run Tryz.prog w = .ok (Value.agg #[Value.bool false,Value.slice none 0 0,Value.slice none 0 0,Value.slice none 0 0]) w:=fun _=>by kernel_rfl
theorem ZYh:∀ w,(zeroValue 134).run Tryz.prog w = .ok (Value.agg #[Value.string (Zf []),Value.bool false,Value.slice none 0 0,Value.slice none 0 0,Value.bool false,Value.slice none 0 0,Value.slice none 0 0]) w:=fun _=>by kernel_rfl
theorem k_zv138:∀ w,(zeroValue 138).run Tryz.prog w = .ok (Value.agg #[Value.string (Zf []),Value.int IntKind.i64 0,Value.int IntKind.i64 0,Value.int IntKind.i64 0,Value.int IntKind.i64 0]) w:=fun _=>by kernel_rfl
theorem ZLl:∀ w,(zeroValue 141).run Tryz.prog w = .ok (Value.agg #[Value.string (Zf []),Value.bool false,Value.slice none 0 0,Value.slice none 0 0,Value.bool false,Value.slice none 0 0,Value.slice none 0 0]) w:=fun _=>by kernel_rfl
theorem ZDm:∀ w,(zeroValue 143).run Tryz.prog w = .ok (Value.agg #[Value.bool false,Value.slice none 0 0,Value.slice none 0 0,Value.bool false,Value.slice none 0 0,Value.slice none 0 0]) w:=fun _=>by kernel_rfl
theorem k_zv149:∀ w,(zeroValue 149).run Tryz.prog w = .ok (Value.agg #[Value.float FloatKind.f32 0,Value.float FloatKind.f32 0]) w:=fun _=>by kernel_rfl
theorem k_zv233:∀ w,(zeroValue 233).run Tryz.prog w = .ok (Value.agg #[Value.bool false,Value.slice none 0 0,Value.slice none 0 0,Value.bool false,Value.slice none 0 0,Value.slice none 0 0]) w:=fun _=>by kernel_rfl
theorem k_zv243:∀ w,(zeroValue 243).run Tryz.prog w = .ok (Value.agg #[Value.pointer none,Value.slice none 0 0]) w:=fun _=>by kernel_rfl
theorem k_zv255:∀ w,(zeroValue 255).run Tryz.prog w = .ok (Value.agg #[Value.int IntKind.u8 0,Value.int IntKind.u8 0,Value.int IntKind.u8 0,Value.int IntKind.u8 0,Value.int IntKind.u8 0,Value.int IntKind.u8 0,Value.int IntKind.u8 0,Value.int IntKind.u8 0,Value.int IntKind.u8 0,Value.int IntKind.u8 0,Value.int IntKind.u8 0,Value.int IntKind.u8 0,Value.int IntKind.u8 0,Value.int IntKind.u8 0,Value.int IntKind.u8 0,Value.int IntKind.u8 0,Value.int IntKind.u8 0,Value.int IntKind.u8 0,Value.int IntKind.u8 0,Value.int IntKind.u8 0]) w:=fun _=>by kernel_rfl
theorem ZUe:∀ w,(zeroValue 28).run Tryz.prog w = .ok (Value.agg #[Value.string (Zf []),Value.slice none 0 0]) w:=fun _=>by kernel_rfl
theorem Zqe:∀ w,(zeroValue 31).run Tryz.prog w = .ok (Value.agg #[Value.string (Zf []),Value.slice none 0 0]) w:=fun _=>by kernel_rfl
theorem ZGd:∀ w,(zeroValue 44).run Tryz.prog w = .ok (Value.agg #[Value.bool false,Value.slice none 0 0]) w:=fun _=>by kernel_rfl
theorem ZFa:∀ w,(zeroValue 46).run Tryz.prog w = .ok (Value.agg #[Value.bool false,Value.slice none 0 0,Value.slice none 0 0]) w:=fun _=>by kernel_rfl
theorem k_zv49:∀ w,(zeroValue 49).run Tryz.prog w = .ok (Value.agg #[Value.string (Zf []),Value.bool false,Value.slice none 0 0,Value.slice none 0 0]) w:=fun _=>by kernel_rfl
theorem ZMb:∀ w,(zeroValue 52).run Tryz.prog w = .ok (Value.agg #[Value.bool false,Value.slice none 0 0,Value.slice none 0 0]) w:=fun _=>by kernel_rfl
theorem k_zv9:∀ w,(zeroValue 9).run Tryz.prog w = .ok (Value.string (Zf [])) w:=fun _=>by kernel_rfl
theorem cut_w {e:World} {d:Zb} (hv:VIn d e) {E:List Value} {a:(List Int)} (F:Rep.rel (Zu (Ze .u64)) d E a) {z:(List Int)} (H:ZIj a=some z):Ret Tryz.prog 114 #[(Zu (Ze .u64)).val E] e d (fun y v'=>∃ G,y=(Zu (Ze .u64)).val G∧(Zu (Ze .u64)).rel v' G z):=by
 obtain ⟨M,N,O,rfl⟩:=Zpa F;refine ZY (K:=21) (args:=[.slice M N O]) hv Tryz.func114 rfl rfl zl fun f S=>?_;unfold ZIj at H;refine sr ?_;have S:=S.nilLoc 184 1;refine ov S rfl (Zaa S (y:=.slice (mkA none) 0 0) rfl) fun f S=>oe (Zg fun _ P=>?_);obtain ⟨Q,R,T⟩:=ZD H;refine ZQ (fun f w=>∃ B j k l m,B=Q∧Zb.le d m∧St 21 e d [(0,.slice j k l)] [] m f w∧Rep.rel (Zu (Ze .u64)) m [.slice j k l] B) (fun _ U=>?_) ?_
 ·have H:=R;refine wp_block ?_;obtain ⟨am,V,W⟩:=ZD H;have S:=S.reorder (ℓ':=[]) [] rfl (by decide);refine Zoa V (fun X f w=>∃ n o q s g,n=X∧Zb.le d g∧St 21 e d [(0,.slice o q s)] [] g f w∧Rep.rel (Zu (Ze .u64)) g [.slice o q s] n) ⟨_,_,_,_,_,rfl,(leR _),(S.fr' rfl),F⟩ ?_;rintro _ f w st ⟨n,o,q,s,g,hq,I,S,c⟩ H an Y Z;subst hq;refine Zg fun _ aa=>Zg fun _ ab=>?_;obtain ⟨ac,ad,ae⟩:=ZD H;refine ZQ (fun f w=>∃ u C,u=ac∧Zb.le g C∧St 21 e d [(0,.slice o q s),(14,.bool u)] [] C f w) (fun _ J=>?_) ?_
  ·have H:=ad;rcases Zx (decide ((0:Int)<(n.length:Int))) with h | h
   ·have H:=Zy H h;refine bO H fun ao af H=>bO H fun ap D H=>Zn (mv S rfl fun f S=>ov S rfl (ZK S (Zv c) rfl rfl Z4) fun f S=>ov S rfl (Zj S rfl rfl ZDa) fun f S=>?_);have S:=S.bool (t:=5) rfl h;refine mv S rfl fun f S=>opy S rfl rfl rfl rfl (Zr S rfl) fun f S=>opy S rfl rfl rfl rfl (Zr S rfl) fun f S=>opy S rfl rfl rfl rfl (ZK S (Zv c) rfl rfl Z4) fun f S=>opy S rfl rfl rfl rfl (Zj S rfl rfl (ZQa af)) fun f S=>?_;obtain ⟨_,aq,ar,au,rfl,ag,ah⟩:=Zka c (Zk D).2.1;obtain ⟨rfl,av⟩:=ah;refine opy S rfl rfl rfl rfl (ZO S rfl rfl Z4 (Zk D).1 (ltI (Zv c) (Zk D).2.2.1)) fun f S=>opy S rfl rfl rfl rfl (Z5 S rfl ZOa (S.view ag)) fun f S=>opy S rfl rfl rfl rfl (Zj S rfl rfl ZVa) fun f S=>ov S rfl (ZL S (b:=true) rfl rfl) fun f S=>Zm ?_;obtain rfl:=Zc H;refine Za (J _ _ ⟨_,_,rfl,(leR _),(S.fr' rfl)⟩)
   have H:=Zw H h;refine Zn (mv S rfl fun f S=>ov S rfl (ZK S (Zv c) rfl rfl Z4) fun f S=>ov S rfl (Zj S rfl rfl ZDa) fun f S=>?_);have S:=S.bool (t:=5) rfl h;refine mv S rfl fun f S=>opn S rfl rfl rfl rfl fun f S=>opn S rfl rfl rfl rfl fun f S=>opn S rfl rfl rfl rfl fun f S=>opn S rfl rfl rfl rfl fun f S=>opn S rfl rfl rfl rfl fun f S=>opn S rfl rfl rfl rfl fun f S=>opn S rfl rfl rfl rfl fun f S=>ov S rfl (ZL S (b:=false) rfl rfl) fun f S=>Zm ?_;obtain rfl:=Zc H;refine Za (J _ _ ⟨_,_,rfl,(leR _),(S.fr' rfl)⟩)
  rintro f w ⟨u,C,hq,v,S⟩;subst hq;have H:=ae;refine Za (ab _ _ ?_);rcases Zx (u) with i | i
  ·have H:=Zy H i;refine ZG S rfl i (wp_skip (Za (aa _ _ (wp_block (bO H fun ai aj H=>bO H fun aw x H=>Zn (mv S rfl fun f S=>mv S rfl fun f S=>?_))))));have c:=Zp v c;refine ov S rfl (ZK S (Zv c) rfl rfl Z4) fun f S=>ov S rfl (Zj S rfl rfl (ZQa aj)) fun f S=>?_;obtain ⟨ax,ay,ak,L⟩:=Zqj S (A:=(Ze .u64)) (p:=(0:Int)) (r:=ai) Z4 c (Z9a x).1 (Z9a x).2.1 (Z9a x).2.2.1;rw [← (Z9a x).2.2.2.1] at L;refine ov S rfl (ak rfl (.inl ⟨rfl,rfl⟩) (.inr ⟨_,_,rfl,rfl⟩)) fun f S=>mw S rfl fun f S=>Zm (Zba ?_);obtain rfl:=Zc H;refine Y _ rfl _ _ ⟨_,_,_,_,_,rfl,(leT I v),(S.fr' rfl),L⟩
  have H:=Zw H i;refine ZF S rfl i (wp_exit (ZR ?_));obtain rfl:=Zc H;have hq:=Z _ rfl;subst hq;have H:=W;refine ZR (Zia ?_);obtain rfl:=Zc H;have c:=Zp v c;refine Za (U _ _ ⟨_,_,_,_,_,rfl,(leT (leT (leR _) I) v),(S.fr' rfl),c⟩)
 rintro f w ⟨B,j,k,l,m,hq,az,S,al⟩;subst hq;have H:=T;refine Za (P _ _ (sr (mv S rfl fun f S=>mw S rfl fun f S=>oe (wp_ret ?_))));obtain rfl:=Zc H;refine ZE S (ZN rfl (ZC S rfl)) ⟨[.slice j k l],rfl,al⟩
theorem Zne {d:World} {b:Zb} (hv:VIn b d) {e:List Value} {a:(List Int)} (c:Rep.rel (Zu (Ze .u64)) b e a) {z:Nat} (hm:Z0b a=some z) :
  Ret Tryz.prog 114 #[(Zu (Ze .u64)).val e] d b (fun y v'=>∃ f,y=ZP.val f∧ZP.rel v' f z) :=
 by cases hm;exact cut_w hv c (cut_eq (Zyl c).1 (Zyl c).2)
theorem word_w {b:World} {a:Zb} (hv:VIn a b) {c:List Value} {n:Int} (h:Rep.rel (Ze .u64) a c n) {z:Nat} (H:ZZi n=some z):Ret Tryz.prog 78 #[(Ze .u64).val c] b a (fun y v'=>∃ d,y=ZP.val d∧ZP.rel v' d z):=by
 obtain ⟨rfl,j⟩:=h;refine ZY (K:=6) (args:=[.int .u64 n]) hv Tryz.func78 rfl rfl zl fun f S=>?_;unfold ZZi at H;refine sr (mw S rfl fun f S=>oe (Zg fun _ k=>bO H fun u m H=>Zn (mv S rfl fun f S=>?_)));obtain ⟨e,w,o,S⟩:=Zcb S (n:=1) (cs:=[.int .u64 n]) (vals:=[(0,.int .u64 n)]) (sz:=1) rfl (by decide) (ZIb Z9c (x:=.int .u64 n) (cs:=[.int .u64 n]) rfl rfl (by decide));have p:Rep.rels (Ze .u64) a [.int .u64 n] [n]:=(Zgb (ZA j) Zya);refine Zza wn rfl zl (o rfl) S fun f S=>?_;obtain ⟨v,B,S,q⟩:=S.pubSlice (i:=0) (A:=(Ze .u64)) (l:=[n]) (ℓ':=[]) rfl rfl rfl p rfl;refine opc S rfl (Zt S [.slice (mkA (some e)) (1) 1] Zoe rfl rfl) (Zne S.vin (show Rep.rel (Zu (Ze .u64)) _ [.slice (mkA (some e)) (1) 1] ([n]) from q) m) ?_;rintro _ C f w D ⟨E,rfl,g⟩ S;obtain ⟨r,s,t,rfl⟩:=Zsa g;refine mw S rfl fun f S=>Zm (Za (k _ _ (wp_ret ?_)));obtain rfl:=Zc H;refine ZE S (ZN rfl (ZC S rfl)) ⟨[.slice r s t],rfl,g⟩
theorem Zjg {b:World} {a:Zb} (hv:VIn a b) {c:List Value} {n:Int} (e:Rep.rel (Ze .u64) a c n) {z:Nat} (hm:Zmd n=some z) :
  Ret Tryz.prog 78 #[(Ze .u64).val c] b a (fun y v'=>∃ d,y=ZP.val d∧ZP.rel v' d z) :=
 word_w hv e (ZDq hm)
theorem of_w {k:World} {j:Zb} (hv:VIn j k) {l:List Value} {n:Int} (q:Rep.rel (Ze .i64) j l n) {z:Int} (H:of_m n=some z):Ret Tryz.prog 92 #[(Ze .i64).val l] k j (fun y v'=>∃ m,y=Zva.val m∧Zva.rel v' m z):=by
 obtain ⟨rfl,G⟩:=q;refine ZY (K:=14) (args:=[.int .i64 n]) hv Tryz.func92 rfl rfl zl fun f S=>?_;unfold of_m at H;refine sr (Z6 S wn rfl zl (cs:=[.bool false,.slice none 0 0]) (ZU ZGd) fun I f w S=>oe (Zg fun _ r=>sr (mv S rfl fun f S=>ov S rfl (Zj S rfl rfl ZV) fun f S=>oe ?_)));rcases Zx (decide (n<(0:Int))) with a | a
 ·have H:=Zy H a;refine ZG S rfl a (Zg fun _ t=>bO H fun J u H=>Zn (mv S rfl fun f S=>ov S rfl (ZUa S rfl (Zlj _)) fun f S=>ov S rfl (Zwk S rfl) fun f S=>opc S rfl (Zt S [.int .u64 (IntKind.u64.wrap (-(IntKind.u64.wrap n)))] Zog rfl rfl) (Zjg S.vin (show Rep.rel (Ze .u64) _ [.int .u64 (IntKind.u64.wrap (-(IntKind.u64.wrap n)))] (IntKind.u64.wrap (-(IntKind.u64.wrap n))) from (ZA (ZJa _ _))) u) ?_));rintro _ L f w M ⟨N,rfl,o⟩ S;obtain ⟨b,c,d,rfl⟩:=Zsa o;refine ov S rfl (ZGa S [(0,.bool true),(1,.slice b c d)] rfl (z:=.agg #[.bool true,.slice b c d]) (by kernel_rfl)) fun f S=>?_;obtain ⟨w,v,S⟩:=sbp S [.bool true,.slice b c d] ZYa 0 0 rfl;refine ZZ wn rfl (v rfl rfl) (Zm (Za (t _ _ (wp_ret (ZB (bO H fun O x H=>?_))))));have A:=ZZj (s:=true) o x;obtain rfl:=Zc H;refine ZE S (ZN rfl (Z1b S rfl ZYa rfl (S.box (i:=0) rfl 0 [.bool true,.slice b c d] rfl))) ⟨[.bool true,.slice b c d],rfl,A⟩
 have H:=Zw H a;refine ZF S rfl a (wp_skip (Za (r _ _ (Zg fun _ B=>bO H fun P C H=>Zn (mv S rfl fun f S=>ov S rfl (ZUa S rfl (Zlj _)) fun f S=>opc S rfl (Zt S [.int .u64 (IntKind.u64.wrap n)] Zog rfl rfl) (Zjg S.vin (show Rep.rel (Ze .u64) _ [.int .u64 (IntKind.u64.wrap n)] (IntKind.u64.wrap n) from (ZA (ZJa _ _))) C) ?_)))));rintro _ Q f w R ⟨T,rfl,p⟩ S;obtain ⟨e,g,h,rfl⟩:=Zsa p;refine ov S rfl (ZGa S [(0,.bool false),(1,.slice e g h)] rfl (z:=.agg #[.bool false,.slice e g h]) (by kernel_rfl)) fun f S=>?_;obtain ⟨w,D,S⟩:=sbp S [.bool false,.slice e g h] ZYa 0 0 rfl;refine ZZ wn rfl (D rfl rfl) (Zm (Za (B _ _ (wp_ret (bO H fun U E H=>?_)))));have F:=ZZj (s:=false) p E;obtain rfl:=Zc H;refine ZE S (ZN rfl (Z1b S rfl ZYa rfl (S.box (i:=0) rfl 0 [.bool false,.slice e g h] rfl))) ⟨[.bool false,.slice e g h],rfl,F⟩
theorem of_c {b:World} {a:Zb} (hv:VIn a b) {c:List Value} {n:Int} (d:Rep.rel (Ze .i64) a c n) {z:Int} (hm:ofF n=some z) :
  Ret Tryz.prog 92 #[(Ze .i64).val c] b a (fun y v'=>∃ e,y=Zva.val e∧Zva.rel v' e z) :=
 of_w hv d (ofF_eq d.2 hm)
theorem qint_w {g:World} {e:Zb} (hv:VIn e g) {h:List Value} {n:Int} (k:Rep.rel (Ze .i64) e h n) {z:Rat} (H:Zbk n=some z):Ret Tryz.prog 38 #[(Ze .i64).val h] g e (fun y v'=>∃ i,y=Zd.val i∧Zd.rel v' i z):=by
 obtain ⟨rfl,l⟩:=k;refine ZY (K:=6) (args:=[.int .i64 n]) hv Tryz.func38 rfl rfl zl fun f S=>?_;unfold Zbk at H;refine sr (Z6 S wn rfl zl (cs:=[.bool false,.slice none 0 0,.slice none 0 0]) (ZU ZFa) fun s f w S=>oe (Zg fun _ m=>bO H fun t o H=>Zn (mv S rfl fun f S=>opc S rfl (Zt S [.int .i64 n] ZIi rfl rfl) (of_c S.vin (show Rep.rel (Ze .i64) _ [.int .i64 n] n from (ZA l)) o) ?_)));rintro _ u f w v ⟨x,rfl,j⟩ S;obtain ⟨a,b,c,d,rfl⟩:=Zhb j;refine ov S rfl (ZGa S [(0,.agg #[.bool a,.slice b c d])] rfl (z:=.agg #[.bool a,.slice b c d,.slice none 0 0]) (by kernel_rfl)) fun f S=>?_;obtain ⟨w,p,S⟩:=sbp S [.bool a,.slice b c d,.slice none 0 0] Zz 0 0 rfl;refine ZZ wn rfl (p rfl rfl) (Zm (Za (m _ _ (wp_ret (bO H fun A q H=>?_)))));have r:=ZPi j (ZUf _) q;obtain rfl:=Zc H;refine ZE S (ZN rfl (ZIa S rfl Zz 0 rfl rfl)) ⟨[.bool a,.slice b c d,.slice none 0 0],rfl,r⟩
theorem Z9d {b:World} {a:Zb} (hv:VIn a b) {c:List Value} {n:Int} (e:Rep.rel (Ze .i64) a c n) {z:Rat} (hm:Zvd n=some z) :
  Ret Tryz.prog 38 #[(Ze .i64).val c] b a (fun y v'=>∃ d,y=Zd.val d∧Zd.rel v' d z) :=
 qint_w hv e (Zuq hm)
theorem len64_w {b:World} {a:Zb} (hv:VIn a b) {q:List Value} {x:Int} (J:Rep.rel (Ze .u64) a q x) {z:Int} (H:Z5g x=some z):Ret Tryz.prog 148 #[(Ze .u64).val q] b a (fun y v'=>∃ r,y=(Ze .i64).val r∧(Ze .i64).rel v' r z):=by
 obtain ⟨rfl,s⟩:=J;refine ZY (K:=25) (args:=[.int .u64 x]) hv Tryz.func148 rfl rfl zl fun f S=>?_;unfold Z5g at H;refine sr (mw S rfl fun f S=>oe (Zg fun _ L=>sr (mv S rfl fun f S=>ov S rfl (Zj S rfl rfl Z3a) fun f S=>oe ?_)));obtain ⟨M,N,O⟩:=ZD H;refine ZQ (fun f w=>∃ c i j,(c,i)=M∧Zb.le a j∧St 25 b a [(0,.int .u64 c),(2,.int .i64 i)] [] j f w∧inR .u64 c∧inR .i64 i) (fun _ t=>?_) ?_
 ·have H:=N;rcases Zx (decide ((4294967296:Int)≤x)) with d | d
  ·have H:=Zy H d;refine ZG S rfl d (Zg fun _ P=>bO H fun ag u H=>Zn (mv S rfl fun f S=>ov S rfl (Zj S rfl rfl (Z3b u)) fun f S=>mw S rfl fun f S=>Zm (Za (P _ _ (Zn (mw S rfl fun f S=>Zm ?_))))));obtain rfl:=Zc H;refine Za (t _ _ ⟨_,_,_,rfl,(leR _),(S.fr' rfl),(Zte s u),(by decide)⟩)
  have H:=Zw H d;refine ZF S rfl d (wp_skip ?_);obtain rfl:=Zc H;refine Za (t _ _ ⟨_,_,_,rfl,(leR _),(S.fr' rfl),s,(by decide)⟩)
 rintro f w ⟨c,i,j,hq,ah,S,v,Q⟩;subst hq;have H:=O;refine Za (L _ _ (Zg fun _ R=>sr (mv S rfl fun f S=>ov S rfl (Zj S rfl rfl Z3a) fun f S=>oe ?_)));obtain ⟨T,U,V⟩:=ZD H;refine ZQ (fun f w=>∃ e k m,(e,k)=T∧Zb.le j m∧St 25 b a [(0,.int .u64 e),(2,.int .i64 k)] [] m f w∧inR .u64 e∧inR .i64 k) (fun _ A=>?_) ?_
 ·have H:=U;rcases Zx (decide ((65536:Int)≤c)) with g | g
  ·have H:=Zy H g;refine ZG S rfl g (Zg fun _ W=>bO H fun ai B H=>Zn (mv S rfl fun f S=>ov S rfl (Zj S rfl rfl (Z3b B)) fun f S=>mw S rfl fun f S=>Zm (Za (W _ _ (bO H fun aj C H=>Zn (mv S rfl fun f S=>ov S rfl (Zj S rfl rfl (Z8 C)) fun f S=>mw S rfl fun f S=>?_))))));refine Zm ?_;obtain rfl:=Zc H;refine Za (A _ _ ⟨_,_,_,rfl,(leR _),(S.fr' rfl),(Zte v B),(Z7 C).2⟩)
  have H:=Zw H g;refine ZF S rfl g (wp_skip ?_);obtain rfl:=Zc H;refine Za (A _ _ ⟨_,_,_,rfl,(leR _),(S.fr' rfl),v,Q⟩)
 rintro f w ⟨e,k,m,hq,ak,S,D,X⟩;subst hq;have H:=V;refine Za (R _ _ (Zg fun _ Y=>sr (mv S rfl fun f S=>ov S rfl (Zj S rfl rfl Z3a) fun f S=>oe ?_)));obtain ⟨Z,aa,ab⟩:=ZD H;refine ZQ (fun f w=>∃ n o p,(n,o)=Z∧Zb.le m p∧St 25 b a [(0,.int .u64 n),(2,.int .i64 o)] [] p f w∧inR .u64 n∧inR .i64 o) (fun _ E=>?_) ?_
 ·have H:=aa;rcases Zx (decide ((256:Int)≤e)) with h | h
  ·have H:=Zy H h;refine ZG S rfl h (Zg fun _ ac=>bO H fun al F H=>Zn (mv S rfl fun f S=>ov S rfl (Zj S rfl rfl (Z3b F)) fun f S=>mw S rfl fun f S=>Zm (Za (ac _ _ (bO H fun am G H=>Zn (mv S rfl fun f S=>ov S rfl (Zj S rfl rfl (Z8 G)) fun f S=>mw S rfl fun f S=>?_))))));refine Zm ?_;obtain rfl:=Zc H;refine Za (E _ _ ⟨_,_,_,rfl,(leR _),(S.fr' rfl),(Zte D F),(Z7 G).2⟩)
  have H:=Zw H h;refine ZF S rfl h (wp_skip ?_);obtain rfl:=Zc H;refine Za (E _ _ ⟨_,_,_,rfl,(leR _),(S.fr' rfl),D,X⟩)
 rintro f w ⟨n,o,p,hq,an,S,ao,ap⟩;subst hq;have H:=ab;refine Za (Y _ _ (Zg fun _ ad=>bO H fun aq ae H=>bO H fun af I H=>Zn (mv S rfl fun f S=>mv S rfl fun f S=>ov S rfl (ZUa S rfl (Zdo _)) fun f S=>ov S rfl (ZGb S (l:=([0,1,2,2,3,3,3,3,4,4,4,4,4,4,4,4,5,5,5,5,5,5,5,5,5,5,5,5,5,5,5,5,6,6,6,6,6,6,6,6,6,6,6,6,6,6,6,6,6,6,6,6,6,6,6,6,6,6,6,6,6,6,6,6,7,7,7,7,7,7,7,7,7,7,7,7,7,7,7,7,7,7,7,7,7,7,7,7,7,7,7,7,7,7,7,7,7,7,7,7,7,7,7,7,7,7,7,7,7,7,7,7,7,7,7,7,7,7,7,7,7,7,7,7,7,7,7,7,8,8,8,8,8,8,8,8,8,8,8,8,8,8,8,8,8,8,8,8,8,8,8,8,8,8,8,8,8,8,8,8,8,8,8,8,8,8,8,8,8,8,8,8,8,8,8,8,8,8,8,8,8,8,8,8,8,8,8,8,8,8,8,8,8,8,8,8,8,8,8,8,8,8,8,8,8,8,8,8,8,8,8,8,8,8,8,8,8,8,8,8,8,8,8,8,8,8,8,8,8,8,8,8,8,8,8,8,8,8,8,8,8,8,8,8,8,8,8,8,8,8,8,8,8,8,8,8]:List UInt8)) (by kernel_rfl) rfl Tryz.underlying9 ae) fun f S=>ov S rfl (ZUa S rfl (k_cv5_3 _)) fun f S=>ov S rfl (Zj S rfl rfl (Z8 I)) fun f S=>mw S rfl fun f S=>Zm (Za (ad _ _ ?_)))));refine wp_ret ?_;obtain rfl:=Zc H;refine ZE S (ZN rfl (ZC S rfl)) ⟨[.int .i64 af],rfl,(ZA (Z7 I).2)⟩
theorem len64_c {b:World} {a:Zb} (hv:VIn a b) {c:List Value} {x:Int} (e:Rep.rel (Ze .u64) a c x) {z:Int} (hm:Zwi x=some z) :
  Ret Tryz.prog 148 #[(Ze .u64).val c] b a (fun y v'=>∃ d,y=(Ze .i64).val d∧(Ze .i64).rel v' d z) :=
 len64_w hv e (Zcs hm)
theorem lz64_w {b:World} {a:Zb} (hv:VIn a b) {c:List Value} {x:Int} (g:Rep.rel (Ze .u64) a c x) {z:Int} (H:ZMi x=some z):Ret Tryz.prog 136 #[(Ze .u64).val c] b a (fun y v'=>∃ d,y=(Ze .i64).val d∧(Ze .i64).rel v' d z):=by
 obtain ⟨rfl,h⟩:=g;refine ZY (K:=6) (args:=[.int .u64 x]) hv Tryz.func136 rfl rfl zl fun f S=>?_;unfold ZMi at H;refine sr (mw S rfl fun f S=>oe (Zg fun _ i=>bO H fun m j H=>bO H fun k e H=>Zn (mv S rfl fun f S=>opc S rfl (Zt S [.int .u64 x] k_en148 rfl rfl) (len64_c S.vin (show Rep.rel (Ze .u64) _ [.int .u64 x] x from (ZA h)) j) ?_)));rintro _ n f w o ⟨p,rfl,l⟩ S;obtain ⟨rfl,q⟩:=l;refine ov S rfl (Zj S rfl rfl (ZQa e)) fun f S=>mw S rfl fun f S=>Zm (Za (i _ _ (wp_ret ?_)));obtain rfl:=Zc H;refine ZE S (ZN rfl (ZC S rfl)) ⟨[.int .i64 k],rfl,(ZA (Z7 e).2)⟩
theorem ZAn {b:World} {a:Zb} (hv:VIn a b) {c:List Value} {x:Int} (e:Rep.rel (Ze .u64) a c x) {z:Int} (hm:ZRe x=some z) :
  Ret Tryz.prog 136 #[(Ze .u64).val c] b a (fun y v'=>∃ d,y=(Ze .i64).val d∧(Ze .i64).rel v' d z) :=
 lz64_w hv e (Zip hm)
theorem div64_w {e:World} {c:Zb} (hv:VIn c e) {X:List Value} {hi:Int} (p0:Rep.rel (Ze .u64) c X hi) {Y:List Value} {lo:Int} (p1:Rep.rel (Ze .u64) c Y lo) {Z:List Value} {y:Int} (p2:Rep.rel (Ze .u64) c Z y) {z:Int×Int} (H:Z7h hi lo y=some z):Ret Tryz.prog 142 #[(Ze .u64).val X,(Ze .u64).val Y,(Ze .u64).val Z] e c (fun y v'=>∃ r0 M,y = .tuple #[(Ze .u64).val r0,(Ze .u64).val M]∧(Ze .u64).rel v' r0 z.1∧(Ze .u64).rel v' M z.2):=by
 obtain ⟨rfl,M⟩:=p0;obtain ⟨rfl,r2⟩:=p1;obtain ⟨rfl,r3⟩:=p2;refine ZY (K:=135) (args:=[.int .u64 hi,.int .u64 lo,.int .u64 y]) hv Tryz.func142 rfl rfl zl fun f S=>?_;unfold Z7h at H;refine sr (mw S rfl fun f S=>mw S rfl fun f S=>oe (Zg fun _ an=>sr (mv S rfl fun f S=>ov S rfl (Zj S rfl rfl ZVa) fun f S=>oe ?_)));rcases Zx (y==(0:Int)) with q | q
 ·have H:=Zy H q;refine ZG S rfl q ?_
  cases H
 have H:=Zw H q;refine ZF S rfl q (wp_skip (Za (an _ _ (Zg fun _ ao=>sr (mv S rfl fun f S=>mv S rfl fun f S=>ov S rfl (Zj S rfl rfl ZPb) fun f S=>oe ?_)))));rcases Zx (decide (y≤hi)) with r | r
 ·have H:=Zy H r;refine ZG S rfl r ?_
  cases H
 have H:=Zw H r;refine ZF S rfl r (wp_skip (Za (ao _ _ (Zg fun _ ap=>sr (mv S rfl fun f S=>ov S rfl (Zj S rfl rfl ZVa) fun f S=>oe ?_)))));rcases Zx (hi==(0:Int)) with s | s
 ·have H:=Zy H s;refine ZG S rfl s (Zg fun _ aq=>bO H fun ar aa H=>bO H fun au N H=>Zda (fl:=#[true,true,true,true,true,true,false,false]) Zea (by kernel_rfl) S ?_);intro ops O F w S;refine rfa O F 0 rfl rfl S (Zr S rfl) fun f S=>rfa O F 1 rfl rfl S (Zr S rfl) fun f S=>rfa O F 2 rfl rfl S (Zj S rfl rfl (ZBc aa)) fun f S=>rfa O F 3 rfl rfl S (Zr S rfl) fun f S=>rfa O F 4 rfl rfl S (Zr S rfl) fun f S=>rfa O F 5 rfl rfl S (Zj S rfl rfl (Zid N)) fun f S=>go1 O F 6 (nva [0,1,2] [3,4,5] O rfl rfl S (Zaa S rfl) fun f S=>⟨(py S rfl rfl (Zr S rfl) (py S rfl rfl (Zr S rfl) (py S rfl rfl (Zj S rfl rfl (Zid N)) Zs))),go1 O F 7 (nva [0,1,2,3,4,5,6] [] O rfl rfl S (Zaa S rfl) fun f S=>⟨Zs,Z1 O F (Za (aq _ _ ?_))⟩)⟩);refine wp_ret (ZB ?_);obtain rfl:=Zc H;refine ZE S (ZBa rfl (ZC S rfl) (ZC S rfl)) ⟨[.int .u64 ar],[.int .u64 au],rfl,(ZA (ZLf aa)),(ZA (ZKl r2 N))⟩
 have H:=Zw H s;refine ZF S rfl s (wp_skip (Za (ap _ _ (Zg fun _ av=>bO H fun h aw H=>Zn (mv S rfl fun f S=>opc S rfl (Zt S [.int .u64 y] Z1m rfl rfl) (ZAn S.vin (show Rep.rel (Ze .u64) _ [.int .u64 y] y from (ZA r3)) aw) ?_)))));rintro _ ab f w bd ⟨be,rfl,ax⟩ S;obtain ⟨rfl,bf⟩:=ax;refine ov S rfl (ZUa S rfl (Z1k _)) fun f S=>mw S rfl fun f S=>Zm (Za (av _ _ (Zg fun _ ay=>bO H fun a az H=>Zn (mv S rfl fun f S=>mv S rfl fun f S=>ov S rfl (Zj S rfl rfl (Z6d az)) fun f S=>mw S rfl fun f S=>Zm (Za (ay _ _ (Zg fun _ aA=>?_)))))));refine bO H fun g aB H=>Zn (mv S rfl fun f S=>ov S rfl (Zj S rfl rfl (Z3b aB)) fun f S=>mw S rfl fun f S=>Zm (Za (aA _ _ (sr (mv S rfl fun f S=>ov S rfl (Zj S rfl rfl Zef) fun f S=>mw S rfl fun f S=>oe (Zg fun _ aC=>bO H fun i aD H=>?_))))));refine bO H fun j aE H=>Zn (mv S rfl fun f S=>mv S rfl fun f S=>ov S rfl (Zj S rfl rfl (Z6d aD)) fun f S=>mv S rfl fun f S=>mv S rfl fun f S=>ov S rfl (Zj S rfl rfl Zpe) fun f S=>ov S rfl (Zj S rfl rfl (Z3b aE)) fun f S=>ov S rfl (Zj S rfl rfl Z5d) fun f S=>mw S rfl fun f S=>Zm ?_);have S:=S.fr' (σ':=[(1,.int .u64 lo),(2,.int .u64 a),(8,.int .u64 (IntKind.u64.wrap h)),(9,.int .u64 g),(10,.int .u64 (Z5a .u64 a (4294967295:Int))),(11,.int .u64 (orI .u64 i j))]) rfl
 refine Za (aC _ _ (Zg fun _ aF=>bO H fun k aG H=>Zn (mv S rfl fun f S=>mv S rfl fun f S=>ov S rfl (Zj S rfl rfl (Z6d aG)) fun f S=>mw S rfl fun f S=>Zm (Za (aF _ _ (Zg fun _ aH=>bO H fun l aI H=>Zn (mv S rfl fun f S=>?_)))))));refine ov S rfl (Zj S rfl rfl (Z3b aI)) fun f S=>mw S rfl fun f S=>Zm (Za (aH _ _ (sr (mv S rfl fun f S=>ov S rfl (Zj S rfl rfl Zef) fun f S=>mw S rfl fun f S=>oe (Zg fun _ aJ=>bO H fun bg ac H=>Zn (mv S rfl fun f S=>mv S rfl fun f S=>?_))))));refine ov S rfl (Zj S rfl rfl (ZBc ac)) fun f S=>mw S rfl fun f S=>Zm (Za (aJ _ _ (sr (mv S rfl fun f S=>mv S rfl fun f S=>mv S rfl fun f S=>ov S rfl (Zj S rfl rfl ZGc) fun f S=>ov S rfl (Zj S rfl rfl Zpe) fun f S=>mw S rfl fun f S=>oe (Zg fun _ aK=>?_)))));obtain ⟨aL,aM,aN⟩:=ZD H;refine ZQ (fun f w=>∃ d u,d=aL∧Zb.le ab u∧St 135 e c [(2,.int .u64 a),(8,.int .u64 (IntKind.u64.wrap h)),(9,.int .u64 g),(10,.int .u64 (Z5a .u64 a (4294967295:Int))),(11,.int .u64 (orI .u64 i j)),(13,.int .u64 l),(14,.int .u64 (Z5a .u64 k (4294967295:Int))),(15,.int .u64 d)] [] u f w∧inR .u64 d) (fun _ ad=>?_) ?_
 ·have H:=aM;refine wp_block ?_;obtain ⟨bh,aO,ae⟩:=ZD H;refine Zoa aO (fun aP f w=>∃ m n G,(m,n)=aP∧Zb.le ab G∧St 135 e c [(2,.int .u64 a),(8,.int .u64 (IntKind.u64.wrap h)),(9,.int .u64 g),(10,.int .u64 (Z5a .u64 a (4294967295:Int))),(11,.int .u64 (orI .u64 i j)),(13,.int .u64 l),(14,.int .u64 (Z5a .u64 k (4294967295:Int))),(15,.int .u64 m),(16,.int .u64 n)] [] G f w∧inR .u64 m∧inR .u64 n) ⟨_,_,_,rfl,(leR _),(S.fr' rfl),(ZLf ac),(ZJa _ _)⟩ ?_;rintro _ f w st ⟨m,n,G,hq,P,S,aQ,bi⟩ H bj aR af;subst hq;refine Zg fun _ aS=>Zg fun _ aT=>?_;obtain ⟨aU,aV,aW⟩:=ZD H;refine ZQ (fun f w=>∃ I Q,I=aU∧Zb.le G Q∧St 135 e c [(2,.int .u64 a),(8,.int .u64 (IntKind.u64.wrap h)),(9,.int .u64 g),(10,.int .u64 (Z5a .u64 a (4294967295:Int))),(11,.int .u64 (orI .u64 i j)),(13,.int .u64 l),(14,.int .u64 (Z5a .u64 k (4294967295:Int))),(15,.int .u64 m),(16,.int .u64 n),(78,.bool I)] [] Q f w) (fun _ ag=>?_) ?_
  ·have H:=aV;rcases Zx (decide ((4294967296:Int)≤m)) with v | v
   ·have H:=Zy H v;refine Zn (mv S rfl fun f S=>ov S rfl (Zj S rfl rfl Z3a) fun f S=>?_);have S:=S.bool (t:=68) rfl v;refine mv S rfl fun f S=>opn S rfl rfl rfl rfl fun f S=>opn S rfl rfl rfl rfl fun f S=>opn S rfl rfl rfl rfl fun f S=>opn S rfl rfl rfl rfl fun f S=>opn S rfl rfl rfl rfl fun f S=>opn S rfl rfl rfl rfl fun f S=>opn S rfl rfl rfl rfl fun f S=>opn S rfl rfl rfl rfl fun f S=>ov S rfl (ZL S (b:=true) rfl rfl) fun f S=>Zm ?_;obtain rfl:=Zc H;refine Za (ag _ _ ⟨_,_,rfl,(leR _),(S.fr' rfl)⟩)
   have H:=Zw H v;refine Zn (mv S rfl fun f S=>ov S rfl (Zj S rfl rfl Z3a) fun f S=>?_);have S:=S.bool (t:=68) rfl v;refine mv S rfl fun f S=>opy S rfl rfl rfl rfl (Zr S rfl) fun f S=>opy S rfl rfl rfl rfl (Zr S rfl) fun f S=>opy S rfl rfl rfl rfl (Zj S rfl rfl ZGc) fun f S=>opy S rfl rfl rfl rfl (Zr S rfl) fun f S=>opy S rfl rfl rfl rfl (Zj S rfl rfl ZGc) fun f S=>opy S rfl rfl rfl rfl (Zr S rfl) fun f S=>opy S rfl rfl rfl rfl (Zj S rfl rfl Zec) fun f S=>opy S rfl rfl rfl rfl (Zj S rfl rfl ZDa) fun f S=>ov S rfl (ZL S (b:=false) rfl rfl) fun f S=>Zm ?_;obtain rfl:=Zc H;refine Za (ag _ _ ⟨_,_,rfl,(leR _),(S.fr' rfl)⟩)
  rintro f w ⟨I,Q,hq,R,S⟩;subst hq;have H:=aW;refine Za (aT _ _ ?_);rcases Zx (I) with x | x
  ·have H:=Zy H x;refine ZG S rfl x (wp_skip (Za (aS _ _ (wp_block (sr (mv S rfl fun f S=>ov S rfl (Zj S rfl rfl Zpe) fun f S=>mw S rfl fun f S=>oe (sr (mv S rfl fun f S=>mv S rfl fun f S=>ov S rfl (Zj S rfl rfl Zec) fun f S=>mw S rfl fun f S=>?_))))))));refine oe (sr (mv S rfl fun f S=>ov S rfl (Zj S rfl rfl Z3a) fun f S=>oe ?_));rcases Zx (decide ((4294967296:Int)≤IntKind.u64.wrap (n+g))) with A | A
   ·have H:=Zy H A;refine ZG S rfl A (wp_exit (ZMj rfl ?_));obtain rfl:=Zc H;have hq:=af _ rfl;subst hq;have H:=ae;refine ZR (Zia ?_);obtain rfl:=Zc H;refine Za (ad _ _ ⟨_,_,rfl,(leT (leT (leR _) P) R),(S.fr' rfl),(ZJa _ _)⟩)
   have H:=Zw H A;refine ZF S rfl A (wp_skip (Zba ?_));obtain rfl:=Zc H;refine aR _ rfl _ _ ⟨_,_,_,rfl,(leT P R),(S.fr' rfl),(ZJa _ _),(ZJa _ _)⟩
  have H:=Zw H x;refine ZF S rfl x (wp_exit (ZR ?_));obtain rfl:=Zc H;have hq:=af _ rfl;subst hq;have H:=ae;refine ZR (Zia ?_);obtain rfl:=Zc H;refine Za (ad _ _ ⟨_,_,rfl,(leT (leT (leR _) P) R),(S.fr' rfl),aQ⟩)
 rintro f w ⟨d,u,hq,bk,S,bm⟩;subst hq;have H:=aN;refine Za (aK _ _ (sr (mv S rfl fun f S=>ov S rfl (Zj S rfl rfl ZGc) fun f S=>mv S rfl fun f S=>ov S rfl (Zj S rfl rfl Zec) fun f S=>mv S rfl fun f S=>mv S rfl fun f S=>ov S rfl (Zj S rfl rfl ZGc) fun f S=>ov S rfl (Zj S rfl rfl Zpe) fun f S=>mw S rfl fun f S=>oe (Zg fun _ aX=>bO H fun bn ah H=>?_))));refine Zn (mv S rfl fun f S=>mv S rfl fun f S=>ov S rfl (Zj S rfl rfl (ZBc ah)) fun f S=>mw S rfl fun f S=>Zm (Za (aX _ _ (sr (mv S rfl fun f S=>mv S rfl fun f S=>mv S rfl fun f S=>ov S rfl (Zj S rfl rfl ZGc) fun f S=>ov S rfl (Zj S rfl rfl Zpe) fun f S=>mw S rfl fun f S=>?_)))));refine oe (Zg fun _ aY=>?_);obtain ⟨aZ,a0,a1⟩:=ZD H;refine ZQ (fun f w=>∃ B T,B=aZ∧Zb.le u T∧St 135 e c [(2,.int .u64 a),(8,.int .u64 (IntKind.u64.wrap h)),(14,.int .u64 (Z5a .u64 k (4294967295:Int))),(15,.int .u64 d),(17,.int .u64 (IntKind.u64.wrap ((IntKind.u64.wrap ((IntKind.u64.wrap ((orI .u64 i j)*(4294967296:Int)))+l))-(IntKind.u64.wrap (d*a))))),(18,.int .u64 B)] [] T f w∧inR .u64 B) (fun _ ai=>?_) ?_
 ·have H:=a0;refine wp_block ?_;obtain ⟨bo,a2,aj⟩:=ZD H;refine Zoa a2 (fun a3 f w=>∃ o p J,(o,p)=a3∧Zb.le u J∧St 135 e c [(2,.int .u64 a),(8,.int .u64 (IntKind.u64.wrap h)),(9,.int .u64 g),(10,.int .u64 (Z5a .u64 a (4294967295:Int))),(14,.int .u64 (Z5a .u64 k (4294967295:Int))),(15,.int .u64 d),(16,.int .u64 o),(17,.int .u64 (IntKind.u64.wrap ((IntKind.u64.wrap ((IntKind.u64.wrap ((orI .u64 i j)*(4294967296:Int)))+l))-(IntKind.u64.wrap (d*a))))),(18,.int .u64 p)] [] J f w∧inR .u64 o∧inR .u64 p) ⟨_,_,_,rfl,(leR _),(S.fr' rfl),(ZJa _ _),(ZLf ah)⟩ ?_;rintro _ f w st ⟨o,p,J,hq,U,S,bp,a4⟩ H bq a5 ak;subst hq;refine Zg fun _ a6=>Zg fun _ a7=>?_;obtain ⟨a8,a9,ba⟩:=ZD H;refine ZQ (fun f w=>∃ L V,L=a8∧Zb.le J V∧St 135 e c [(2,.int .u64 a),(8,.int .u64 (IntKind.u64.wrap h)),(9,.int .u64 g),(10,.int .u64 (Z5a .u64 a (4294967295:Int))),(14,.int .u64 (Z5a .u64 k (4294967295:Int))),(15,.int .u64 d),(16,.int .u64 o),(17,.int .u64 (IntKind.u64.wrap ((IntKind.u64.wrap ((IntKind.u64.wrap ((orI .u64 i j)*(4294967296:Int)))+l))-(IntKind.u64.wrap (d*a))))),(18,.int .u64 p),(113,.bool L)] [] V f w) (fun _ al=>?_) ?_
  ·have H:=a9;rcases Zx (decide ((4294967296:Int)≤p)) with C | C
   ·have H:=Zy H C;refine Zn (mv S rfl fun f S=>ov S rfl (Zj S rfl rfl Z3a) fun f S=>?_);have S:=S.bool (t:=103) rfl C;refine mv S rfl fun f S=>opn S rfl rfl rfl rfl fun f S=>opn S rfl rfl rfl rfl fun f S=>opn S rfl rfl rfl rfl fun f S=>opn S rfl rfl rfl rfl fun f S=>opn S rfl rfl rfl rfl fun f S=>opn S rfl rfl rfl rfl fun f S=>opn S rfl rfl rfl rfl fun f S=>opn S rfl rfl rfl rfl fun f S=>ov S rfl (ZL S (b:=true) rfl rfl) fun f S=>Zm ?_;obtain rfl:=Zc H;refine Za (al _ _ ⟨_,_,rfl,(leR _),(S.fr' rfl)⟩)
   have H:=Zw H C;refine Zn (mv S rfl fun f S=>ov S rfl (Zj S rfl rfl Z3a) fun f S=>?_);have S:=S.bool (t:=103) rfl C;refine mv S rfl fun f S=>opy S rfl rfl rfl rfl (Zr S rfl) fun f S=>opy S rfl rfl rfl rfl (Zr S rfl) fun f S=>opy S rfl rfl rfl rfl (Zj S rfl rfl ZGc) fun f S=>opy S rfl rfl rfl rfl (Zr S rfl) fun f S=>opy S rfl rfl rfl rfl (Zj S rfl rfl ZGc) fun f S=>opy S rfl rfl rfl rfl (Zr S rfl) fun f S=>opy S rfl rfl rfl rfl (Zj S rfl rfl Zec) fun f S=>opy S rfl rfl rfl rfl (Zj S rfl rfl ZDa) fun f S=>ov S rfl (ZL S (b:=false) rfl rfl) fun f S=>Zm ?_;obtain rfl:=Zc H;refine Za (al _ _ ⟨_,_,rfl,(leR _),(S.fr' rfl)⟩)
  rintro f w ⟨L,V,hq,W,S⟩;subst hq;have H:=ba;refine Za (a7 _ _ ?_);rcases Zx (L) with D | D
  ·have H:=Zy H D;refine ZG S rfl D (wp_skip (Za (a6 _ _ (wp_block (sr (mv S rfl fun f S=>ov S rfl (Zj S rfl rfl Zpe) fun f S=>mw S rfl fun f S=>oe (sr (mv S rfl fun f S=>mv S rfl fun f S=>ov S rfl (Zj S rfl rfl Zec) fun f S=>mw S rfl fun f S=>?_))))))));refine oe (sr (mv S rfl fun f S=>ov S rfl (Zj S rfl rfl Z3a) fun f S=>oe ?_));rcases Zx (decide ((4294967296:Int)≤IntKind.u64.wrap (o+g))) with E | E
   ·have H:=Zy H E;refine ZG S rfl E (wp_exit (ZMj rfl ?_));obtain rfl:=Zc H;have hq:=ak _ rfl;subst hq;have H:=aj;refine ZR (Zia ?_);obtain rfl:=Zc H;refine Za (ai _ _ ⟨_,_,rfl,(leT (leT (leR _) U) W),(S.fr' rfl),(ZJa _ _)⟩)
   have H:=Zw H E;refine ZF S rfl E (wp_skip (Zba ?_));obtain rfl:=Zc H;refine a5 _ rfl _ _ ⟨_,_,_,rfl,(leT U W),(S.fr' rfl),(ZJa _ _),(ZJa _ _)⟩
  have H:=Zw H D;refine ZF S rfl D (wp_exit (ZR ?_));obtain rfl:=Zc H;have hq:=ak _ rfl;subst hq;have H:=aj;refine ZR (Zia ?_);obtain rfl:=Zc H;refine Za (ai _ _ ⟨_,_,rfl,(leT (leT (leR _) U) W),(S.fr' rfl),a4⟩)
 rintro f w ⟨B,T,hq,br,S,bs⟩;subst hq;have H:=a1;refine Za (aY _ _ (Zg fun _ bb=>bO H fun bc am H=>Zn (mv S rfl fun f S=>ov S rfl (Zj S rfl rfl ZGc) fun f S=>mv S rfl fun f S=>ov S rfl (Zj S rfl rfl Zec) fun f S=>mv S rfl fun f S=>ov S rfl (Zj S rfl rfl ZGc) fun f S=>mv S rfl fun f S=>ov S rfl (Zj S rfl rfl Zec) fun f S=>mv S rfl fun f S=>mv S rfl fun f S=>?_)));refine ov S rfl (Zj S rfl rfl ZGc) fun f S=>ov S rfl (Zj S rfl rfl Zpe) fun f S=>mv S rfl fun f S=>ov S rfl (Zj S rfl rfl (Z3b am)) fun f S=>mw S rfl fun f S=>mw S rfl fun f S=>Zm (Za (bb _ _ (wp_ret ?_)));obtain rfl:=Zc H;refine ZE S (ZBa rfl (ZC S rfl) (ZC S rfl)) ⟨[.int .u64 (IntKind.u64.wrap ((IntKind.u64.wrap (d*(4294967296:Int)))+B))],[.int .u64 bc],rfl,(ZA (ZJa _ _)),(ZA (Zte (ZJa _ _) am))⟩
theorem Zfm {b:World} {a:Zb} (hv:VIn a b) {c:List Value} {hi:Int} (h:Rep.rel (Ze .u64) a c hi) {d:List Value} {lo:Int} (i:Rep.rel (Ze .u64) a d lo) {e:List Value} {y:Int} (j:Rep.rel (Ze .u64) a e y) {z:Int×Int} (hm:Z7d hi lo y=some z) :
  Ret Tryz.prog 142 #[(Ze .u64).val c,(Ze .u64).val d,(Ze .u64).val e] b a (fun y v'=>∃ f g,y=Value.tuple #[(Ze .u64).val f,(Ze .u64).val g]∧(Ze .u64).rel v' f z.1∧(Ze .u64).rel v' g z.2) :=
 div64_w hv h i j (Zkp hm)
theorem ZKq {E:World} {d:Zb} (hv:VIn d E) {R:List Value} {a:Nat} (g:Rep.rel ZP d R a) {T:List Value} {n:Int} (p1:Rep.rel (Ze .u64) d T n) {z:Nat×Int} (H:Zji a n=some z):Ret Tryz.prog 127 #[ZP.val R,(Ze .u64).val T] E d (fun y v'=>∃ U V,y = .tuple #[ZP.val U,(Ze .u64).val V]∧ZP.rel v' U z.1∧(Ze .u64).rel v' V z.2):=by
 obtain ⟨W,X,Y,rfl⟩:=Zsa g;obtain ⟨rfl,r4⟩:=p1;refine ZY (K:=35) (args:=[.slice W X Y,.int .u64 n]) hv Tryz.func127 rfl rfl zl fun f S=>?_;unfold Zji at H;refine sr (mw S rfl fun f S=>mw S rfl fun f S=>oe (Zg fun _ ah=>bO H fun y9 F H=>Zn (mv S rfl fun f S=>ov S rfl (ZK S (Zv g) rfl rfl Z4) fun f S=>?_)));obtain ⟨Z,aa⟩:∃ c:List Value,c=(List.replicate ((((Zl 18446744073709551616 a)).length:Int)).toNat [.int .u64 0]).flatten:=⟨_,rfl⟩;obtain ⟨ai,w,aj,S⟩:=Zac Z9c S (l:=(((Zl 18446744073709551616 a)).length:Int)) (c:=(((Zl 18446744073709551616 a)).length:Int)) (Zca F).1 (Zca F).2.1 (Zca F).2.2.1 (Zca F).2.2.2 aa;have ak:Rep.rels (Ze .u64) d Z (List.replicate ((((Zl 18446744073709551616 a)).length:Int)).toNat (0:Int)):=by rw [aa];exact ZSb (show Rep.rel (Ze .u64) _ [.int .u64 0] _ from (ZA (by decide))) _
 refine Zza wn rfl zl (aj rfl rfl) S fun f S=>mw S rfl fun f S=>Zm (Za (ah _ _ (sr (mw S rfl fun f S=>oe (Zg fun _ al=>Zg fun _ am=>bO H fun aV ab H=>Zn (mv S rfl fun f S=>ov S rfl (ZK S (Zv g) rfl rfl Z4) fun f S=>ov S rfl (Zj S rfl rfl (ZQa ab)) fun f S=>?_))))));refine mw S rfl fun f S=>Zm (Za (am _ _ ?_));obtain ⟨an,ao,ap⟩:=ZD H;refine ZQ (fun f w=>∃ o s t p u L G,(o,s)=an∧Zb.le d G∧St 35 E d [(6,.slice (mkA t) p u),(7,.int .u64 s)] [Loc.own t 184 1 p u L] G f w∧Rep.rels (Ze .u64) G L o∧p=o.length∧inR .u64 s) (fun _ aq=>?_) ?_
 ·have H:=ao;refine wp_block ?_;obtain ⟨aW,ar,au⟩:=ZD H;refine Zoa ar (fun av f w=>∃ q h b I k v e J,(q,h,b)=av∧Zb.le d J∧St 35 E d [(0,.slice W X Y),(1,.int .u64 n),(6,.slice (mkA I) k v),(7,.int .u64 h),(8,.int .i64 b)] [Loc.own I 184 1 k v e] J f w∧Rep.rels (Ze .u64) J e q∧k=q.length∧inR .u64 h∧inR .i64 b) ⟨_,_,_,some ai,((((Zl 18446744073709551616 a)).length:Int)).toNat,((((Zl 18446744073709551616 a)).length:Int)).toNat,Z,_,rfl,(leR _),(S.fr' rfl),ak,(ZLb (x:=(0:Int))),(by decide),(Z7 ab).2⟩ ?_;rintro _ f w st ⟨q,h,b,I,k,v,e,J,hq,M,S,B,C,ac,aX⟩ H aY aw ax;subst hq;refine Zg fun _ ay=>sr (mv S rfl fun f S=>ov S rfl (Zj S rfl rfl Z3a) fun f S=>oe ?_);rcases Zx (decide ((0:Int)≤b)) with D | D
  ·have H:=Zy H D;refine ZG S rfl D (wp_skip (Za (ay _ _ (Zg fun _ az=>wp_block (bO H fun N O H=>bO H fun m aA H=>bO H fun aZ r H=>Zn (mv S rfl fun f S=>mv S rfl fun f S=>mv S rfl fun f S=>mv S rfl fun f S=>mv S rfl fun f S=>?_))))));have g:=Zp M g;obtain ⟨_,a0,a1,a2,rfl,P,aB⟩:=Zka g (Zk O).2.1;obtain ⟨rfl,aC⟩:=aB;refine ov S rfl (ZO S rfl rfl Z4 (Zk O).1 (ltI (Zv g) (Zk O).2.2.1)) fun f S=>ov S rfl (Z5 S rfl ZOa (S.view P)) fun f S=>mv S rfl fun f S=>opc S rfl (Zt S [.int .u64 h,.int .u64 N,.int .u64 n] Zgn rfl rfl) (Zfm S.vin (show Rep.rel (Ze .u64) _ [.int .u64 h] h from (ZA ac)) (show Rep.rel (Ze .u64) _ [.int .u64 N] N from (ZA aC)) (show Rep.rel (Ze .u64) _ [.int .u64 n] n from (ZA r4)) aA) ?_;rintro _ ad f w Q ⟨a3,a4,rfl,aD,aE⟩ S;have B:=ZT Q B;have P:=Atm Q P;obtain ⟨rfl,aF⟩:=aD;obtain ⟨rfl,aG⟩:=aE;refine mv S rfl fun f S=>ov S rfl (ZM S rfl rfl) fun f S=>ov S rfl (ZM S rfl rfl) fun f S=>?_;obtain ⟨aH,rfl⟩:=Zxb S (j:=0) rfl (ZDb C (Zk r).2.2.2);have ae:=ZCa B (Zk r).2.1;obtain ⟨a5,aI⟩:∃ c,(List.take (Ze .u64).n (List.drop ((b).toNat*(Ze .u64).n) e))=c:=⟨_,rfl⟩
   rw [aI] at ae;obtain ⟨rfl,a6⟩:=ae;refine ov S rfl (ZO S rfl rfl Z4 (Zk r).1 (ltI C (Zk r).2.2.1)) fun f S=>?_;obtain ⟨w,aJ,S⟩:=ZFb S ZOa (off:=0+(b).toNat*1) (z:=.int .u64 (m.1)) (cs:=[.int .u64 (m.1)]) (ZCb rfl) rfl (i:=0) rfl (Z2b S (j:=0) rfl (ltN C (Zk r).2.2.2)) (by first | rfl | simp [Z0a]);have aK:Rep.rels (Ze .u64) ad (List.take (0+(b).toNat*1) e++[Value.int IntKind.u64 (m.1)]++List.drop (0+(b).toNat*1+1) e) (q.set (b).toNat m.1):=ZNb B (Zk r).2.2.2 (show Rep.rel (Ze .u64) ad [.int .u64 (m.1)] _ from (ZA aF)) rfl rfl;have aL:k=(q.set (b).toNat m.1).length:=Zwb C;refine ZZ wn rfl (aJ rfl rfl) (mw S rfl fun f S=>Zm (Zba (Za (az _ _ (bO H fun a7 af H=>Zn (mv S rfl fun f S=>ov S rfl (Zj S rfl rfl (ZQa af)) fun f S=>mw S rfl fun f S=>Zm ?_))))));obtain rfl:=Zc H;refine aw _ rfl _ _ ⟨_,_,_,some aH,k,v,(List.take (0+(b).toNat*1) e++[Value.int IntKind.u64 (m.1)]++List.drop (0+(b).toNat*1+1) e),_,rfl,(leT M Q),(S.fr' rfl),aK,aL,aG,(Z7 af).2⟩
  have H:=Zw H D;refine ZF S rfl D (wp_exit (ZR ?_));obtain rfl:=Zc H;have hq:=ax _ rfl;subst hq;have H:=au;refine ZR (Zia ?_);obtain rfl:=Zc H;refine Za (aq _ _ ⟨_,_,I,k,v,e,_,rfl,(leT (leR _) M),(S.fr' rfl),B,C,ac⟩)
 rintro f w ⟨o,s,t,p,u,L,G,hq,a8,S,aM,aN,aO⟩;subst hq;have H:=ap;refine Za (al _ _ (Zg fun _ aP=>bO H fun a9 aQ H=>Zn (mv S rfl fun f S=>?_)));obtain ⟨ba,bb,S,aR⟩:=S.pubSlice (i:=0) (A:=(Ze .u64)) (l:=o) (ℓ':=[]) rfl rfl aN aM rfl;refine opc S rfl (Zt S [.slice (mkA t) p u] Zoe rfl rfl) (Zne S.vin (show Rep.rel (Zu (Ze .u64)) _ [.slice (mkA t) p u] o from aR) aQ) ?_;rintro _ bc f w bd ⟨be,rfl,ag⟩ S;obtain ⟨aS,aT,aU,rfl⟩:=Zsa ag;refine mv S rfl fun f S=>mw S rfl fun f S=>mw S rfl fun f S=>Zm (Za (aP _ _ (wp_ret ?_)));obtain rfl:=Zc H;refine ZE S (ZBa rfl (ZC S rfl) (ZC S rfl)) ⟨[.slice aS aT aU],[.int .u64 s],rfl,ag,(ZA aO)⟩
theorem ZCn {c:World} {b:Zb} (hv:VIn b c) {d:List Value} {a:Nat} (i:Rep.rel ZP b d a) {e:List Value} {n:Int} (f:Rep.rel (Ze .u64) b e n) {z:Nat×Int} (hm:ZKe a n=some z) :
  Ret Tryz.prog 127 #[ZP.val d,(Ze .u64).val e] c b (fun y v'=>∃ g h,y=Value.tuple #[ZP.val g,(Ze .u64).val h]∧ZP.rel v' g z.1∧(Ze .u64).rel v' h z.2) :=
 ZKq hv i f (ZYr f.2 hm)
theorem cmp_w {m:World} {e:Zb} (hv:VIn e m) {A:List Value} {a:(List Int)} (c:Rep.rel (Zu (Ze .u64)) e A a) {B:List Value} {b:(List Int)} (d:Rep.rel (Zu (Ze .u64)) e B b) {z:Int} (H:Zhk a b=some z):Ret Tryz.prog 93 #[(Zu (Ze .u64)).val A,(Zu (Ze .u64)).val B] m e (fun y v'=>∃ C,y=(Ze .i64).val C∧(Ze .i64).rel v' C z):=by
 obtain ⟨D,E,G,rfl⟩:=Zpa c;obtain ⟨I,J,L,rfl⟩:=Zpa d;refine ZY (K:=41) (args:=[.slice D E G,.slice I J L]) hv Tryz.func93 rfl rfl zl fun f S=>?_;unfold Zhk at H;refine sr (mw S rfl fun f S=>oe (Zg fun _ P=>sr (mv S rfl fun f S=>ov S rfl (ZK S (Zv c) rfl rfl Z4) fun f S=>mv S rfl fun f S=>ov S rfl (ZK S (Zv d) rfl rfl Z4) fun f S=>ov S rfl (Zj S rfl rfl Zmb) fun f S=>oe ?_)));rcases Zx (((a.length:Int)) != ((b.length:Int))) with g | g
 ·have H:=Zy H g;refine ZG S rfl g (Zg fun _ Q=>sr (mv S rfl fun f S=>ov S rfl (ZK S (Zv c) rfl rfl Z4) fun f S=>mv S rfl fun f S=>ov S rfl (ZK S (Zv d) rfl rfl Z4) fun f S=>ov S rfl (Zj S rfl rfl ZV) fun f S=>oe ?_));rcases Zx (decide ((a.length:Int)<(b.length:Int))) with h | h
  ·have H:=Zy H h;refine ZG S rfl h (sr (mw S rfl fun f S=>oe (wp_ret (ZB (ZB ?_)))));obtain rfl:=Zc H;refine ZE S (ZN rfl (ZC S rfl)) ⟨[.int .i64 (-1:Int)],rfl,(ZA (by decide))⟩
  have H:=Zw H h;refine ZF S rfl h (wp_skip (Za (Q _ _ (sr (mw S rfl fun f S=>oe (wp_ret (ZB ?_)))))));obtain rfl:=Zc H;refine ZE S (ZN rfl (ZC S rfl)) ⟨[.int .i64 1],rfl,(ZA (by decide))⟩
 have H:=Zw H g;refine ZF S rfl g (wp_skip (Za (P _ _ (Zg fun _ R=>Zg fun _ T=>bO H fun ar M H=>Zn (mv S rfl fun f S=>ov S rfl (ZK S (Zv c) rfl rfl Z4) fun f S=>ov S rfl (Zj S rfl rfl (ZQa M)) fun f S=>mw S rfl fun f S=>Zm (Za (T _ _ ?_)))))));obtain ⟨U,V,o⟩:=ZD H;refine ZQ (fun f w=>∃  (p:Zb),(.inl (()))=U∧Zb.le e p∧St 41 m e [] [] p f w) (fun _ W=>?_) ?_
 ·have H:=V;refine wp_block ?_;obtain ⟨au,X,q⟩:=ZD H;refine Zoa X (fun Y f w=>∃ i r,i=Y∧Zb.le e r∧St 41 m e [(0,.slice D E G),(1,.slice I J L),(5,.int .i64 i)] [] r f w∧inR .i64 i) ⟨_,_,rfl,(leR _),(S.fr' rfl),(Z7 M).2⟩ ?_;rintro _ f w st ⟨i,r,hq,n,S,av⟩ H aw Z s;subst hq;refine Zg fun _ aa=>sr (mv S rfl fun f S=>ov S rfl (Zj S rfl rfl Z3a) fun f S=>oe ?_);rcases Zx (decide ((0:Int)≤i)) with j | j
  ·have H:=Zy H j;refine ZG S rfl j (wp_skip (Za (aa _ _ (Zg fun _ ab=>wp_block (Zg fun _ ac=>Zg fun _ ad=>bO H fun ae t H=>bO H fun af u H=>Zda (fl:=#[true,true,true,true,true,true,true,true,true]) Zea (by kernel_rfl) S ?_)))));intro ops O F w S;refine rfa O F 0 rfl rfl S (Zr S rfl) fun f S=>rfa O F 1 rfl rfl S (Zr S rfl) fun f S=>?_;have c:=Zp n c;obtain ⟨_,ax,ay,az,rfl,ag,ah⟩:=Zka c (Zk t).2.1;obtain ⟨rfl,aA⟩:=ah;refine rfa O F 2 rfl rfl S (ZO S rfl rfl Z4 (Zk t).1 (ltI (Zv c) (Zk t).2.2.1)) fun f S=>rfa O F 3 rfl rfl S (Z5 S rfl ZOa (S.view ag)) fun f S=>rfa O F 4 rfl rfl S (Zr S rfl) fun f S=>rfa O F 5 rfl rfl S (Zr S rfl) fun f S=>?_;have d:=Zp n d;obtain ⟨_,aB,aC,aD,rfl,ai,aj⟩:=Zka d (Zk u).2.1;obtain ⟨rfl,aE⟩:=aj;refine rfa O F 6 rfl rfl S (ZO S rfl rfl Z4 (Zk u).1 (ltI (Zv d) (Zk u).2.2.1)) fun f S=>rfa O F 7 rfl rfl S (Z5 S rfl ZOa (S.view ai)) fun f S=>rfa O F 8 rfl rfl S (Zj S rfl rfl ZV) fun f S=>Z1 O F (Za (ad _ _ ?_));rcases Zx (decide (ae<af)) with k | k
   ·have H:=Zy H k;refine ZG S rfl k (sr (mw S rfl fun f S=>oe (wp_ret (ZB (Z2 (ZB ?_))))));obtain rfl:=Zc H;have hq:=s _ rfl;subst hq;have H:=q;refine ZB (Z2 ?_);obtain rfl:=Zc H;have H:=o;refine ZB (ZB ?_);obtain rfl:=Zc H;refine ZE S (ZN rfl (ZC S rfl)) ⟨[.int .i64 (-1:Int)],rfl,(ZA (by decide))⟩
   have H:=Zw H k;refine ZF S rfl k (wp_skip (Za (ac _ _ (Zg fun _ ak=>bO H fun al v H=>bO H fun am x H=>Zda (fl:=#[true,true,true,true,true,true,true,true,true]) Zea (by kernel_rfl) S ?_))));intro ops O F w S;refine rfa O F 0 rfl rfl S (Zr S rfl) fun f S=>rfa O F 1 rfl rfl S (Zr S rfl) fun f S=>?_;obtain ⟨aF,an,ao⟩:=Zfb c (Zk v).2.1;obtain ⟨rfl,aG⟩:=ao;refine rfa O F 2 rfl rfl S (ZO S rfl rfl Z4 (Zk v).1 (ltI (Zv c) (Zk v).2.2.1)) fun f S=>rfa O F 3 rfl rfl S (Z5 S rfl ZOa (S.view an)) fun f S=>rfa O F 4 rfl rfl S (Zr S rfl) fun f S=>rfa O F 5 rfl rfl S (Zr S rfl) fun f S=>?_;obtain ⟨aH,ap,aq⟩:=Zfb d (Zk x).2.1;obtain ⟨rfl,aI⟩:=aq;refine rfa O F 6 rfl rfl S (ZO S rfl rfl Z4 (Zk x).1 (ltI (Zv d) (Zk x).2.2.1)) fun f S=>rfa O F 7 rfl rfl S (Z5 S rfl ZOa (S.view ap)) fun f S=>rfa O F 8 rfl rfl S (Zj S rfl rfl ZDa) fun f S=>Z1 O F (Za (ak _ _ ?_));rcases Zx (decide (am<al)) with l | l
   ·have H:=Zy H l;refine ZG S rfl l (sr (mw S rfl fun f S=>oe (wp_ret (Z2 (ZB ?_)))));obtain rfl:=Zc H;have hq:=s _ rfl;subst hq;have H:=q;refine ZB (Z2 ?_);obtain rfl:=Zc H;have H:=o;refine ZB (ZB ?_);obtain rfl:=Zc H;refine ZE S (ZN rfl (ZC S rfl)) ⟨[.int .i64 1],rfl,(ZA (by decide))⟩
   have H:=Zw H l;refine ZF S rfl l (wp_skip (Zba (Za (ab _ _ (bO H fun aJ N H=>Zn (mv S rfl fun f S=>ov S rfl (Zj S rfl rfl (ZQa N)) fun f S=>mw S rfl fun f S=>Zm ?_))))));obtain rfl:=Zc H;refine Z _ rfl _ _ ⟨_,_,rfl,n,(S.fr' rfl),(Z7 N).2⟩
  have H:=Zw H j;refine ZF S rfl j (wp_exit (ZR ?_));obtain rfl:=Zc H;have hq:=s _ rfl;subst hq;have H:=q;refine ZR (Zia ?_);obtain rfl:=Zc H;refine Za (W _ _ ⟨_,rfl,(leT (leR _) n),(S.fr' rfl)⟩)
 rintro f w ⟨p,hq,aK,S⟩;subst hq;have H:=o;refine Za (R _ _ (sr (mw S rfl fun f S=>oe (wp_ret ?_))));obtain rfl:=Zc H;refine ZE S (ZN rfl (ZC S rfl)) ⟨[.int .i64 0],rfl,(ZA (by decide))⟩
theorem cmp_c {d:World} {c:Zb} (hv:VIn c d) {e:List Value} {a:Nat} (f:Rep.rel ZP c e a) {g:List Value} {b:Nat} (h:Rep.rel ZP c g b) {z:Int} (hm:cmpF a b=some z) :
  Ret Tryz.prog 93 #[ZP.val e,ZP.val g] d c (fun y v'=>∃ i,y=(Ze .i64).val i∧(Ze .i64).rel v' i z) :=
 cmp_w hv f h ((cmp_eq (ZAo f) (ZAo h)).trans hm)
theorem mul64_w {e:World} {a:Zb} (hv:VIn a e) {g:List Value} {x:Int} (l:Rep.rel (Ze .u64) a g x) {h:List Value} {y:Int} (m:Rep.rel (Ze .u64) a h y) {z:Int×Int} (H:Zch x y=some z):Ret Tryz.prog 117 #[(Ze .u64).val g,(Ze .u64).val h] e a (fun y v'=>∃ i c,y = .tuple #[(Ze .u64).val i,(Ze .u64).val c]∧(Ze .u64).rel v' i z.1∧(Ze .u64).rel v' c z.2):=by
 obtain ⟨rfl,c⟩:=l;obtain ⟨rfl,B⟩:=m;refine ZY (K:=51) (args:=[.int .u64 x,.int .u64 y]) hv Tryz.func117 rfl rfl zl fun f S=>?_;unfold Zch at H;refine sr (mw S rfl fun f S=>mw S rfl fun f S=>oe (sr (mv S rfl fun f S=>ov S rfl (Zj S rfl rfl Zef) fun f S=>mw S rfl fun f S=>oe (Zg fun _ n=>bO H fun b o H=>Zn (mv S rfl fun f S=>ov S rfl (Zj S rfl rfl (Z3b o)) fun f S=>?_)))));refine mw S rfl fun f S=>Zm (Za (n _ _ (sr (mv S rfl fun f S=>ov S rfl (Zj S rfl rfl Zef) fun f S=>mw S rfl fun f S=>oe (Zg fun _ p=>bO H fun d q H=>Zn (mv S rfl fun f S=>ov S rfl (Zj S rfl rfl (Z3b q)) fun f S=>mw S rfl fun f S=>?_))))));refine Zm (Za (p _ _ (sr (mv S rfl fun f S=>mv S rfl fun f S=>ov S rfl (Zj S rfl rfl ZGc) fun f S=>mw S rfl fun f S=>oe (Zg fun _ r=>bO H fun s t H=>Zn (mv S rfl fun f S=>mv S rfl fun f S=>ov S rfl (Zj S rfl rfl ZGc) fun f S=>?_))))));refine mv S rfl fun f S=>ov S rfl (Zj S rfl rfl (Z3b t)) fun f S=>ov S rfl (Zj S rfl rfl Zec) fun f S=>mw S rfl fun f S=>Zm ?_;have S:=S.fr' (σ':=[(0,.int .u64 x),(1,.int .u64 y),(6,.int .u64 (Z5a .u64 x (4294967295:Int))),(7,.int .u64 b),(9,.int .u64 d),(11,.int .u64 (IntKind.u64.wrap ((IntKind.u64.wrap (b*(Z5a .u64 y (4294967295:Int))))+s)))]) rfl;refine Za (r _ _ (sr (mv S rfl fun f S=>ov S rfl (Zj S rfl rfl Zef) fun f S=>mw S rfl fun f S=>oe (Zg fun _ u=>bO H fun j v H=>Zn (mv S rfl fun f S=>ov S rfl (Zj S rfl rfl (Z3b v)) fun f S=>mw S rfl fun f S=>Zm (Za (u _ _ ?_)))))))
 refine sr (mv S rfl fun f S=>mv S rfl fun f S=>mv S rfl fun f S=>ov S rfl (Zj S rfl rfl ZGc) fun f S=>ov S rfl (Zj S rfl rfl Zec) fun f S=>mw S rfl fun f S=>oe (Zg fun _ w=>bO H fun k A H=>Zn (mv S rfl fun f S=>mv S rfl fun f S=>ov S rfl (Zj S rfl rfl ZGc) fun f S=>?_)));refine mv S rfl fun f S=>ov S rfl (Zj S rfl rfl Zec) fun f S=>mv S rfl fun f S=>ov S rfl (Zj S rfl rfl (Z3b A)) fun f S=>ov S rfl (Zj S rfl rfl Zec) fun f S=>mw S rfl fun f S=>Zm (Za (w _ _ (sr (mv S rfl fun f S=>mv S rfl fun f S=>ov S rfl (Zj S rfl rfl ZGc) fun f S=>mw S rfl fun f S=>?_))));have S:=S.fr' (σ':=[(4,.int .u64 (IntKind.u64.wrap ((IntKind.u64.wrap ((IntKind.u64.wrap (b*d))+j))+k))),(5,.int .u64 (IntKind.u64.wrap (x*y)))]) rfl;refine oe (wp_ret ?_);obtain rfl:=Zc H;refine ZE S (ZBa rfl (ZC S rfl) (ZC S rfl)) ⟨[.int .u64 (IntKind.u64.wrap ((IntKind.u64.wrap ((IntKind.u64.wrap (b*d))+j))+k))],[.int .u64 (IntKind.u64.wrap (x*y))],rfl,(ZA (ZJa _ _)),(ZA (ZJa _ _))⟩
theorem Zjl {b:World} {a:Zb} (hv:VIn a b) {c:List Value} {x:Int} (g:Rep.rel (Ze .u64) a c x) {d:List Value} {y:Int} (h:Rep.rel (Ze .u64) a d y) {z:Int×Int} (hm:Z4d x y=some z) :
  Ret Tryz.prog 117 #[(Ze .u64).val c,(Ze .u64).val d] b a (fun y v'=>∃ e f,y=Value.tuple #[(Ze .u64).val e,(Ze .u64).val f]∧(Ze .u64).rel v' e z.1∧(Ze .u64).rel v' f z.2) :=
 mul64_w hv g h (Zpq hm)
theorem take_w {R:World} {o:Zb} (hv:VIn o R) {a off0 g C:Nat} {E:TypeId} {pre0 cs0 post0:List Value} {u:(List Int)} (bf:R.heap[a]? = some (.cells (pre0++cs0++post0).toArray E (0,0))) (aG:off0=pre0.length) (bg:o a=none) (au:g=u.length) (bh:g≤C∧C≤maxLen) (r:Rep.rels (Ze .u64) o cs0 u) {c1:List Value} {v:Nat} (D:Rep.rel ZP o c1 v) {c2:List Value} {q:Int} (p2:Rep.rel (Ze .u64) o c2 q) {z:Bool×(List Int)} (H:Zph u v q=some z):RetL Tryz.prog 149 #[.slice (some ⟨a,off0,none⟩) g C,ZP.val c1,(Ze .u64).val c2] R o [a] (fun y v' w'=>(∃ r0,y=Zna.val r0∧Zna.rel v' r0 z.1)∧v' a=none∧∃ cs,w'.heap[a]? = some (.cells (pre0++cs++post0).toArray E (0,0))∧g=z.2.length∧Rep.rels (Ze .u64) v' cs z.2):=by
 obtain ⟨q1,V,W,rfl⟩:=Zsa D;obtain ⟨rfl,r4⟩:=p2;refine ZBm (K:=79) (args:=[.slice (some ⟨a,off0,none⟩) (g) C,.slice q1 V W,.int .u64 q]) hv bf bg Tryz.func149 rfl rfl zl fun f S=>?_;unfold Zph at H;refine sr (mw S rfl fun f S=>oe (Zg fun _ bi=>bO H fun J bj H=>bO H fun cC av H=>Zn (mv S rfl fun f S=>ov S rfl (ZK S (Zv D) rfl rfl Z4) fun f S=>ov S rfl (Zj S rfl rfl (Z8 bj)) fun f S=>?_)));obtain ⟨aH,aQ⟩:∃ c:List Value,c=(List.replicate (J).toNat [.int .u64 0]).flatten:=⟨_,rfl⟩;obtain ⟨aR,w,bk,S⟩:=Zac Z9c S (l:=J) (c:=J) (Zca av).1 (Zca av).2.1 (Zca av).2.2.1 (Zca av).2.2.2 aQ;have bm:Rep.rels (Ze .u64) o aH (List.replicate (J).toNat (0:Int)):=by rw [aQ];exact ZSb (show Rep.rel (Ze .u64) _ [.int .u64 0] _ from (ZA (by decide))) _
 refine Zza wn rfl zl (bk rfl rfl) S fun f S=>mw S rfl fun f S=>Zm (Za (bi _ _ (sr (mw S rfl fun f S=>oe (Zg fun _ bn=>sr (mv S rfl fun f S=>ov S rfl (ZK S (Zv D) rfl rfl Z4) fun f S=>mv S rfl fun f S=>oe ?_))))));obtain ⟨bo,bp,bq⟩:=ZD H;refine ZQ (fun f w=>∃ L b aI s G h X,(L,b)=bo∧Zb.le o X∧St 79 ⟨R,[a]⟩ o [(0,.slice (some ⟨a,off0,none⟩) (g) C),(1,.slice q1 V W),(7,.slice (mkA aI) s G),(8,.int .u64 b)] [Loc.box a E (pre0++cs0++post0),Loc.own aI 184 1 s G h] X f w∧Rep.rels (Ze .u64) X h L∧s=L.length∧inR .u64 b) (fun _ br=>?_) ?_
 ·have H:=bp;refine wp_block ?_;obtain ⟨cD,bs,bt⟩:=ZD H;have S:=S.reorder (ℓ':=[Loc.box a E (pre0++cs0++post0),Loc.own (some aR) 184 1 ((J).toNat) (J).toNat aH]) [1,0] rfl (by decide);refine Zoa bs (fun bu f w=>∃ Y ag m aw M Z I ax,(Y,ag,m)=bu∧Zb.le o ax∧St 79 ⟨R,[a]⟩ o [(0,.slice (some ⟨a,off0,none⟩) (g) C),(1,.slice q1 V W),(2,.int .u64 q),(7,.slice (mkA aw) M Z),(8,.int .u64 ag),(20,.slice q1 V W),(21,.int .i64 ((((Zl 18446744073709551616 v)).length:Int))),(22,.int .i64 m)] [Loc.box a E (pre0++cs0++post0),Loc.own aw 184 1 M Z I] ax f w∧Rep.rels (Ze .u64) ax I Y∧M=Y.length∧inR .u64 ag∧inR .i64 m) ⟨_,_,_,some aR,(J).toNat,(J).toNat,aH,_,rfl,(leR _),(S.fr' rfl),bm,(ZLb (x:=(0:Int))),(by decide),(by decide)⟩ ?_;rintro _ f w st ⟨Y,ag,m,aw,M,Z,I,ax,hq,ay,S,ah,ai,bv,cE⟩ H cF bw bx;subst hq;have r:=ZT ay r;refine sr (ov S rfl (Zj S rfl rfl ZV) fun f S=>oe (Zg fun _ bz=>?_));rcases Zx (decide (m<(((Zl 18446744073709551616 v)).length:Int))) with aj | aj
  ·have H:=Zy H aj;refine ZG S rfl aj (wp_skip (Za (bz _ _ (Zg fun _ bA=>wp_block (Zg fun _ bB=>bO H fun aJ aK H=>Zn (mv S rfl fun f S=>?_))))));have D:=Zp ay D;obtain ⟨_,aS,aT,cG,rfl,bC,bD⟩:=Zka D (Zk aK).2.1;obtain ⟨rfl,bE⟩:=bD;refine ov S rfl (ZO S rfl rfl Z4 (Zk aK).1 (ltI (Zv D) (Zk aK).2.2.1)) fun f S=>ov S rfl (Z5 S rfl ZOa (S.view bC)) fun f S=>mw S rfl fun f S=>mw S rfl fun f S=>Zm (Za (bB _ _ (Zg fun _ bF=>bO H fun aU bG H=>Zn (mv S rfl fun f S=>mv S rfl fun f S=>opc S rfl (Zt S [.int .u64 aJ,.int .u64 q] Z4l rfl rfl) (Zjl S.vin (show Rep.rel (Ze .u64) _ [.int .u64 aJ] aJ from (ZA bE)) (show Rep.rel (Ze .u64) _ [.int .u64 q] q from (ZA r4)) bG) ?_))));rintro _ aV f w aL ⟨cH,cJ,rfl,bH,bI⟩ S;have r:=ZT aL r;have ah:=ZT aL ah;obtain ⟨rfl,cK⟩:=bH;obtain ⟨rfl,cL⟩:=bI;refine mv S rfl fun f S=>ov S rfl (ZM S rfl rfl) fun f S=>ov S rfl (ZM S rfl rfl) fun f S=>mw S rfl fun f S=>mw S rfl fun f S=>Zm (Za (bF _ _ (sr (mw S rfl fun f S=>oe (Zg fun _ bJ=>bO H fun N aW H=>bO H fun cM aa H=>Zn ?_)))));refine mv S rfl fun f S=>mv S rfl fun f S=>mv S rfl fun f S=>mv S rfl fun f S=>ov S rfl (ZCc S [.int .u64 (aU.2),.int .u64 ag,.int .u64 0] (Zhi Zdi aW) rfl rfl) fun f S=>mv S rfl fun f S=>ov S rfl (ZM S rfl rfl) fun f S=>ov S rfl (ZM S rfl rfl) fun f S=>?_
   obtain ⟨aX,rfl⟩:=Zxb S (j:=1) rfl (ZDb ai (Zk aa).2.2.2);have aY:=ZCa ah (Zk aa).2.1;obtain ⟨cN,bK⟩:∃ c,(List.take (Ze .u64).n (List.drop ((m).toNat*(Ze .u64).n) I))=c:=⟨_,rfl⟩;rw [bK] at aY;obtain ⟨rfl,cO⟩:=aY;refine ov S rfl (ZO S rfl rfl Z4 (Zk aa).1 (ltI ai (Zk aa).2.2.1)) fun f S=>?_;obtain ⟨w,bL,S⟩:=ZFb S ZOa (off:=0+(m).toNat*1) (z:=.int .u64 (N.1)) (cs:=[.int .u64 (N.1)]) (ZCb rfl) rfl (i:=1) rfl (Z2b S (j:=1) rfl (ltN ai (Zk aa).2.2.2)) (by first | rfl | simp [Z0a]);have bM:Rep.rels (Ze .u64) aV (List.take (0+(m).toNat*1) I++[Value.int IntKind.u64 (N.1)]++List.drop (0+(m).toNat*1+1) I) (Y.set (m).toNat N.1):=ZNb ah (Zk aa).2.2.2 (show Rep.rel (Ze .u64) aV [.int .u64 (N.1)] _ from (ZA (Zcj aW))) rfl rfl;have bN:M=(Y.set (m).toNat N.1).length:=Zwb ai;refine ZZ wn rfl (bL rfl rfl) (mw S rfl fun f S=>Zm ?_);have S:=S.fr' (σ':=[(0,.slice (some ⟨a,off0,none⟩) (g) C),(1,.slice (some ⟨aS,aT,none⟩) V W),(2,.int .u64 q),(7,.slice (mkA (some aX)) (M) Z),(11,.int .u64 (aU.1)),(13,.int .u64 (N.2)),(20,.slice (some ⟨aS,aT,none⟩) V W),(21,.int .i64 ((((Zl 18446744073709551616 v)).length:Int))),(22,.int .i64 m)]) rfl
   refine Za (bJ _ _ (Zn (mv S rfl fun f S=>mv S rfl fun f S=>ov S rfl (Zj S rfl rfl Zec) fun f S=>mw S rfl fun f S=>Zm (Zba (Za (bA _ _ (bO H fun cP aZ H=>Zn (ov S rfl (Zj S rfl rfl (Z8 aZ)) fun f S=>mv S rfl fun f S=>Zm ?_))))))));obtain rfl:=Zc H;refine bw _ rfl _ _ ⟨_,_,_,some aX,M,Z,(List.take (0+(m).toNat*1) I++[Value.int IntKind.u64 (N.1)]++List.drop (0+(m).toNat*1+1) I),_,rfl,(leT ay aL),(S.fr' rfl),bM,bN,(ZJa _ _),(Z7 aZ).2⟩
  have H:=Zw H aj;refine ZF S rfl aj (wp_exit (ZR ?_));obtain rfl:=Zc H;have hq:=bx _ rfl;subst hq;have H:=bt;refine ZR (Zia ?_);obtain rfl:=Zc H;refine Za (br _ _ ⟨_,_,aw,M,Z,I,_,rfl,(leT (leR _) ay),(S.fr' rfl),ah,ai,bv⟩)
 rintro f w ⟨L,b,aI,s,G,h,X,hq,a0,S,a1,az,bP⟩;subst hq;have H:=bq;have r:=ZT a0 r;refine Za (bn _ _ (Zg fun _ bQ=>bO H fun cQ ab H=>Zn (mv S rfl fun f S=>mv S rfl fun f S=>?_)));have D:=Zp a0 D;refine ov S rfl (ZK S (Zv D) rfl rfl Z4) fun f S=>mv S rfl fun f S=>?_;obtain ⟨ac,rfl⟩:=Zxb S (j:=1) rfl (ZDb az (Zk ab).2.2.2);have a2:=ZCa a1 (Zk ab).2.1;obtain ⟨cR,bR⟩:∃ c,(List.take (Ze .u64).n (List.drop (((((Zl 18446744073709551616 v)).length:Int)).toNat*(Ze .u64).n) h))=c:=⟨_,rfl⟩;rw [bR] at a2;obtain ⟨rfl,cT⟩:=a2;refine ov S rfl (ZO S rfl rfl Z4 (Zk ab).1 (ltI az (Zk ab).2.2.1)) fun f S=>?_;obtain ⟨w,bS,S⟩:=ZFb S ZOa (off:=0+((((Zl 18446744073709551616 v)).length:Int)).toNat*1) (z:=.int .u64 b) (cs:=[.int .u64 b]) (ZCb rfl) rfl (i:=1) rfl (Z2b S (j:=1) rfl (ltN az (Zk ab).2.2.2)) (by first | rfl | simp [Z0a]);have p:Rep.rels (Ze .u64) X (List.take (0+((((Zl 18446744073709551616 v)).length:Int)).toNat*1) h++[Value.int IntKind.u64 (b)]++List.drop (0+((((Zl 18446744073709551616 v)).length:Int)).toNat*1+1) h) (L.set ((((Zl 18446744073709551616 v)).length:Int)).toNat b):=ZNb a1 (Zk ab).2.2.2 (show Rep.rel (Ze .u64) X [.int .u64 b] _ from (ZA bP)) rfl rfl
 have aM:s=(L.set ((((Zl 18446744073709551616 v)).length:Int)).toNat b).length:=Zwb az;refine ZZ wn rfl (bS rfl rfl) (Zm (Za (bQ _ _ (Zg fun _ bT=>Zg fun _ bU=>bO H fun cU bV H=>bO H fun cV bW H=>bO H fun bX bY H=>Zn (mv S rfl fun f S=>?_)))));have p0s120:=r;have h69s120:=p;have bZ:=S.vst.le;obtain ⟨cW,cX,a3,t,S,b1,b2,b3,T⟩:=S.lendSeg (i:=0) (A:=(Ze .u64)) (l:=u) (ℓ':=[Loc.own (some ac) 184 1 s G ((List.take (0+((((Zl 18446744073709551616 v)).length:Int)).toNat*1) h++[Value.int IntKind.u64 (b)]++List.drop (0+((((Zl 18446744073709551616 v)).length:Int)).toNat*1+1) h))]) rfl rfl aG r au bh;have p:=ZT a3 p;refine opc S rfl (Zt S [.slice (some ⟨a,off0,none⟩) (g) C] Zoe rfl rfl) (Zne S.vin (show Rep.rel (Zu (Ze .u64)) _ [.slice (some ⟨a,off0,none⟩) (g) C] u from T) bV) ?_;rintro _ cY f w aA ⟨cZ,rfl,P⟩ S;have p:=ZT aA p;have t:=aA _ _ t;obtain ⟨b4,b5,b6,rfl⟩:=Zsa P;refine mv S rfl fun f S=>?_;have T:=Zp aA T;have h128s137:=T;have h69s137:=p;have h133s137:=P;have h124s137:=t;have b7:=S.vst.le;obtain ⟨c0,c3,aB,ak,S,b8,b9,ca,cb⟩:=S.lendSlice (i:=0) (A:=(Ze .u64)) (l:=(L.set ((((Zl 18446744073709551616 v)).length:Int)).toNat b)) (ℓ':=[]) rfl rfl rfl p aM
 have t:=aB _ _ t;refine opc S rfl (Zt S [.slice (mkA (some ac)) (s) G] Zoe rfl rfl) (Zne S.vin (show Rep.rel (Zu (Ze .u64)) _ [.slice (mkA (some ac)) (s) G] ((L.set ((((Zl 18446744073709551616 v)).length:Int)).toNat b)) from cb) bW) ?_;rintro _ c4 f w al ⟨c5,rfl,a4⟩ S;have t:=al _ _ t;have ak:=al _ _ ak;obtain ⟨cc,cd,ce,rfl⟩:=Zsa a4;have P:=Zp (leT aB al) P;refine opc S rfl (Zt S [.slice b4 b5 b6,.slice cc cd ce] ZHl rfl rfl) (cmp_c S.vin P a4 bY) ?_;rintro _ c6 f w am ⟨c7,rfl,cg⟩ S;have t:=am _ _ t;have ak:=am _ _ ak;obtain ⟨rfl,c8⟩:=cg;refine ov S rfl (Zj S rfl rfl ZV) fun f S=>Zm ?_;obtain ⟨c9,an,S⟩:=S.takeBack (e:=Loc.own (some ac) 184 1 s G ((List.take (0+((((Zl 18446744073709551616 v)).length:Int)).toNat*1) h++[Value.int IntKind.u64 (b)]++List.drop (0+((((Zl 18446744073709551616 v)).length:Int)).toNat*1+1) h))) (leT (leT aB al) am) rfl ak b8 b9 b7 ca;have T:=Zp (leT (leT aB al) am) T;have T:=Zp an h128s137;have p:=ZT an h69s137;have P:=Zp am P;have P:=Zp an h133s137;have t:=an _ _ h124s137;obtain ⟨a5,a6,S⟩:=S.takeBack (e:=Loc.box a E (pre0++cs0++post0)) (leT (leT a3 aA) an) rfl t b1 b2 bZ b3;have r:=ZT a6 p0s120
 have p:=ZT a6 h69s120;refine Za (bU _ _ ?_);rcases Zx (decide (bX<(0:Int))) with ao | ao
 ·have H:=Zy H ao;refine ZG S rfl ao (sr (mw S rfl fun f S=>oe (wp_ret (ZB ?_))));obtain rfl:=Zc H;refine ZVl S (ZN rfl (ZC S rfl)) ⟨⟨[.bool false],rfl,ZEa⟩,(S.boxAt (j:=0) rfl).2,_,(S.boxAt (j:=0) rfl).1,au,r⟩
 have H:=Zw H ao;refine ZF S rfl ao (wp_skip (Za (bT _ _ (sr (mw S rfl fun f S=>oe (Zg fun _ ch=>sr (mv S rfl fun f S=>ov S rfl (ZK S au rfl rfl Z4) fun f S=>mv S rfl fun f S=>oe ?_)))))));obtain ⟨ci,cj,ck⟩:=ZD H;refine ZQ (fun f w=>∃ aC aN aD,aC=ci∧Zb.le a5 aD∧St 79 ⟨R,[a]⟩ o [] [Loc.box a E (pre0++aN++post0)] aD f w∧Rep.rels (Ze .u64) aD aN aC∧g=aC.length) (fun _ cl=>?_) ?_
 ·have H:=cj;refine wp_block ?_;obtain ⟨da,cm,cn⟩:=ZD H;refine Zoa cm (fun co f w=>∃ ad ap d B ae,(ad,ap,d)=co∧Zb.le a5 ae∧St 79 ⟨R,[a]⟩ o [(0,.slice (some ⟨a,off0,none⟩) (g) C),(7,.slice (mkA (some ac)) (s) G),(14,.int .u64 ap),(58,.int .i64 ((u.length:Int))),(59,.int .i64 d)] [Loc.box a E (pre0++B++post0),Loc.own (some ac) 184 1 s G ((List.take (0+((((Zl 18446744073709551616 v)).length:Int)).toNat*1) h++[Value.int IntKind.u64 (b)]++List.drop (0+((((Zl 18446744073709551616 v)).length:Int)).toNat*1+1) h))] ae f w∧Rep.rels (Ze .u64) ae B ad∧g=ad.length∧inR .u64 ap∧inR .i64 d) ⟨_,_,_,cs0,_,rfl,(leR _),(S.fr' rfl),r,au,(by decide),(by decide)⟩ ?_;rintro _ f w st ⟨ad,ap,d,B,ae,hq,aO,S,af,Q,db,dc⟩ H dd cp cq;subst hq;have p:=ZT aO p;refine sr (ov S rfl (Zj S rfl rfl ZV) fun f S=>oe (Zg fun _ cr=>?_));rcases Zx (decide (d<(u.length:Int))) with aq | aq
  ·have H:=Zy H aq;refine ZG S rfl aq (wp_skip (Za (cr _ _ (Zg fun _ ct=>wp_block (sr (mv S rfl fun f S=>mw S rfl fun f S=>oe (bO H fun a7 aE H=>bO H fun a8 aF H=>bO H fun U aP H=>bO H fun de ar H=>Zda (fl:=#[true,true,true,true,true,true,true,true,true,true,true,false,true,true,true,true,false,false]) Zea (by kernel_rfl) S ?_)))))));intro ops O F w S;refine rfa O F 0 rfl rfl S (Zr S rfl) fun f S=>rfa O F 1 rfl rfl S (Zr S rfl) fun f S=>rfa O F 2 rfl rfl S (Zr S rfl) fun f S=>rfa O F 3 rfl rfl S (Zr S rfl) fun f S=>?_;have a9:=ZCa af (Zk aE).2.1;obtain ⟨df,ba⟩:∃ c,(List.take (Ze .u64).n (List.drop ((d).toNat*(Ze .u64).n) B))=c:=⟨_,rfl⟩;rw [ba] at a9;obtain ⟨rfl,cu⟩:=a9;refine rfa O F 4 rfl rfl S (ZO S rfl rfl Z4 (Zk aE).1 (ltI Q (Zk aE).2.2.1)) fun f S=>rfa O F 5 rfl rfl S (Z5 S rfl ZOa (Z3g S (j:=0) rfl aG (ZHb af Q) ba (ltN Q (Zk aE).2.2.2) 0 [.int .u64 a7] rfl zl)) fun f S=>rfa O F 6 rfl rfl S (Zr S rfl) fun f S=>rfa O F 7 rfl rfl S (Zr S rfl) fun f S=>?_;have bb:=ZCa p (Zk aF).2.1;obtain ⟨dg,bc⟩:∃ c,(List.take (Ze .u64).n (List.drop ((d).toNat*(Ze .u64).n) (List.take (0+((((Zl 18446744073709551616 v)).length:Int)).toNat*1) h++[Value.int IntKind.u64 (b)]++List.drop (0+((((Zl 18446744073709551616 v)).length:Int)).toNat*1+1) h)))=c:=⟨_,rfl⟩
   rw [bc] at bb;obtain ⟨rfl,cv⟩:=bb;refine rfa O F 8 rfl rfl S (ZO S rfl rfl Z4 (Zk aF).1 (ltI aM (Zk aF).2.2.1)) fun f S=>rfa O F 9 rfl rfl S (Z5 S rfl ZOa (Zic S (j:=1) rfl bc (ltN aM (Zk aF).2.2.2) 0 [.int .u64 a8] rfl zl)) fun f S=>rfa O F 10 rfl rfl S (Zr S rfl) fun f S=>go1 O F 11 (nva [5,9,10,4,8,2,3,6,7] [0,1] O rfl rfl S (ZCc S [.int .u64 a7,.int .u64 a8,.int .u64 ap] (ZRm Zio cu cv aP) rfl rfl) fun f S=>⟨(py S rfl rfl (Zr S rfl) (py S rfl rfl (Zr S rfl) Zs)),rfa O F 12 rfl rfl S (Zr S rfl) fun f S=>rfa O F 13 rfl rfl S (ZM S rfl rfl) fun f S=>rfa O F 14 rfl rfl S (ZM S rfl rfl) fun f S=>?_⟩);have bd:=ZCa af (Zk ar).2.1;obtain ⟨dh,cw⟩:∃ c,(List.take (Ze .u64).n (List.drop ((d).toNat*(Ze .u64).n) B))=c:=⟨_,rfl⟩;rw [cw] at bd;obtain ⟨rfl,di⟩:=bd;refine rfa O F 15 rfl rfl S (ZO S rfl rfl Z4 (Zk ar).1 (ltI Q (Zk ar).2.2.1)) fun f S=>go1 O F 16 ?_;obtain ⟨w,cx,S⟩:=Z0q S (k:=(d).toNat) ZOa (z:=.int .u64 (U.1)) (c:=[.int .u64 (U.1)]) (ZCb rfl) rfl (i:=0) rfl aG (ZHb af Q) (ltN Q (Zk ar).2.2.2) rfl (by first | rfl | simp [Z0a]);have cy:Rep.rels (Ze .u64) ae (List.take (0+(d).toNat*1) B++[Value.int IntKind.u64 (U.1)]++List.drop (0+(d).toNat*1+1) B) (ad.set (d).toNat U.1):=ZNb af (Zk ar).2.2.2 (show Rep.rel (Ze .u64) ae [.int .u64 (U.1)] _ from (ZA (Z2m aP))) rfl rfl
   have cz:g=(ad.set (d).toNat U.1).length:=Zwb Q;refine nxs [0,1,2,3,4,5,6,7,8,9,10,11,12,13,15] [14] O rfl rfl (cx rfl rfl) (⟨(py S rfl rfl (ZM S rfl rfl) Zs),go1 O F 17 (nva [0,1,2,3,4,5,6,7,8,9,10,11,12,13,14,15,16] [] O rfl rfl S (Zaa S rfl) fun f S=>⟨Zs,Z1 O F (Zba (Za (ct _ _ (bO H fun dj be H=>Zn (ov S rfl (Zj S rfl rfl (Z8 be)) fun f S=>mv S rfl fun f S=>Zm ?_)))))⟩)⟩);obtain rfl:=Zc H;refine cp _ rfl _ _ ⟨_,_,_,(List.take (0+(d).toNat*1) B++[Value.int IntKind.u64 (U.1)]++List.drop (0+(d).toNat*1+1) B),_,rfl,aO,(S.fr' rfl),cy,cz,(Zwo aP),(Z7 be).2⟩
  have H:=Zw H aq;refine ZF S rfl aq (wp_exit (ZR ?_));obtain rfl:=Zc H;have hq:=cq _ rfl;subst hq;have H:=cn;refine ZR (Zia ?_);obtain rfl:=Zc H;have S:=S.reorder (ℓ':=[Loc.box a E (pre0++B++post0)]) [0] rfl (by decide);refine Za (cl _ _ ⟨_,B,_,rfl,(leT (leR _) aO),(S.fr' rfl),af,Q⟩)
 rintro f w ⟨aC,aN,aD,hq,dk,S,cA,cB⟩;subst hq;have H:=ck;refine Za (ch _ _ (sr (mw S rfl fun f S=>oe (wp_ret ?_))));obtain rfl:=Zc H;refine ZVl S (ZN rfl (ZC S rfl)) ⟨⟨[.bool true],rfl,ZEa⟩,(S.boxAt (j:=0) rfl).2,_,(S.boxAt (j:=0) rfl).1,cB,cA⟩
end Go.Eng
