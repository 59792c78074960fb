/- Lemmas towards the statement: the engine of the walks, the functions' models, laws and walks, part 3. Conditions: as each states. -/
import Derived.Laws.RangeString
import Derived.LoopN
import Derived.MapKept
import Derived.Test.YtinpjekdhmadcaaGreatDoorPpB
set_option linter.all false
set_option maxRecDepth 100000
namespace Go.Eng
open Go.MapKept
abbrev MPd:=List (List UInt8×Int)
def mpL (l:List MapEntry) (m:MPd):Prop:=l.map (λe=>(e.key,e.val))=m.map λx=>(Value.string (Zg x.1),Value.int .i64 x.2)
def mpV (m:MPd):List (Value×Value):=m.map λx=>(Value.string (Zg x.1),Value.int .i64 x.2)
def Z1a:MPd→List UInt8→Option Int
 | [],_=>none
 | x :: m,s=>if x.1=s then some x.2 else Z1a m s
def mpPut (m:Option MPd) (s:List UInt8) (i:Int):Option (Option MPd):=match m with
 | none=>none
 | some m=>match Z1a m s with
  | none=>some (some (m++[(s,i)]))
  | some _=>none
theorem Zby {a b:List UInt8} (h:Zg a=Zg b):a=b:=by
 unfold Zg at h;have:=congrArg ByteArray.data h;exact List.toArray_inj this
theorem Z9i (s:List UInt8):∀ (l:List MapEntry) (m:MPd) (i:Nat),mpL l m→∃ r,Instr.findNow .string (.string (Zg s)) l i=some r∧r.map (·.2)=(Z1a m s).map (Value.int .i64)
 | [],[],i,_=>⟨none,rfl,rfl⟩
 | [],y :: m,i,h=>by cases h
 | e :: l,[],i,h=>by cases h
 | e :: l,y :: m,i,h=>by
  obtain⟨h1,h2⟩:=List.cons.inj h
  have hk:e.key = .string (Zg y.1):=congrArg Prod.fst h1
  have hv:e.val = .int .i64 y.2:=congrArg Prod.snd h1
  by_cases q:y.1=s
  ·refine⟨some (i,e.val),?_,?_⟩
   ·have:Instr.sameNow .string (.string (Zg s)) e.key=some true:=by
     rw[hk,q];show some (Zg s==Zg s)=some true;exact congrArg some ((bytes_beq _ _).2 rfl)
    simp[Instr.findNow,this]
   ·rw[hv];rw[show Z1a (y :: m) s=some y.2 from iP q];rfl
  ·obtain⟨r,e1,e2⟩:=Z9i s l m (i+1) h2;refine⟨r,?_,?_⟩
   ·have:Instr.sameNow .string (.string (Zg s)) e.key=some false:=by
     rw[hk];show some (Zg s==Zg y.1)=some false;refine congrArg some (Bool.eq_false_iff.2 λhb=>q (Zby ((bytes_beq _ _).1 hb)).symm)
    simp[Instr.findNow,this,e1]
   ·rw[e2,show Z1a (y :: m) s=Z1a m s from iN q]
section
variable {P:Program} {w:World} {mty kt et:TypeId} {r clock:Nat} {es:Array MapEntry} {m:MPd} {s:List UInt8}
theorem ZZh (b:ByteArray):IsKey .string (.string b):=trivial
theorem ZEt (hm:P.underlying mty=some (.map kt et)) (hk:P.underlying kt=some .string) {z0:Int} (hz:(zeroValue et).run P w = .ok (.int .i64 z0) w) (hb:w.heap[r]? = some (.map es clock)) (h:mpL es.toList m):(Instr.lookup mty (.map (some r)) (.string (Zg s)) true).run P w = .ok (.tuple #[.int .i64 ((Z1a m s).getD z0),.bool (Z1a m s).isSome]) w:=by
 obtain⟨a,e1,e2⟩:=Z9i s es.toList m 0 h;unfold Instr.lookup;simp[run_underlying hm,Go.MapKept.run_getObj_map hb,Go.MapKept.run_checkKey hk (ZZh _),Go.MapKept.run_findKey hk e1,Result.andThen]
 cases hg:Z1a m s with
 | none =>
  rw[hg]at e2
  cases a with
  | none=>simp[hz,Result.andThen]
  | some p=>cases e2
 | some x =>
  rw[hg]at e2
  cases a with
  | none=>cases e2
  | some p =>
   have:p.2 = .int .i64 x:=Option.some.inj e2;simp[this,Result.andThen]
theorem Znv {x:Int} (hm:P.underlying mty=some (.map kt et)) (hk:P.underlying kt=some .string) (hb:w.heap[r]? = some (.map es clock)) (h:mpL es.toList m) (hn:Z1a m s=none):∃ es' c',(Instr.mapUpdate mty (.map (some r)) (.string (Zg s)) (.int .i64 x)).run P w = .ok () { w with heap:=w.heap.setIfInBounds r (.map es' c') }∧mpL es'.toList (m++[(s,x)]):=by
 obtain⟨a,e1,e2⟩:=Z9i s es.toList m 0 h;rw[hn]at e2;obtain rfl:a=none:=by cases a with
  | none=>rfl
  | some p=>cases e2
 refine⟨es.push { key:=.string (Zg s),val:=.int .i64 x,born:=clock },clock+1,?_,?_⟩
 ·unfold Instr.mapUpdate;simp[run_underlying hm,Go.MapKept.run_getObj_map hb,Go.MapKept.run_checkKey hk (ZZh _),Go.MapKept.run_findKey hk e1,Go.MapKept.run_setObj_map _ hb,Result.andThen]
 ·unfold mpL at h ⊢;simp[h]
def rMp:Rep (Option MPd) where
 n:=1
 agg:=false
 rel v cs x:=match x with
  | none=>cs=[.map none]
  | some m=>∃ r es c,cs=[.map (some r)]∧v r=some (.map es c)∧mpL es.toList m∧∀ x,x ∈ m→inR .i64 x.2
 len {v cs x} h:=by
  cases x with
  | none=>rw[show cs=[.map none] from h];rfl
  | some m=>obtain⟨r,es,c,rfl,_⟩:=h;rfl
 mono {v v' cs x} hv h:=by
  cases x with
  | none=>exact h
  | some m=>obtain⟨r,es,c,h1,h2,h3⟩:=h;exact⟨r,es,c,h1,hv _ _ h2,h3⟩
 flat {v cs x} h:=by
  cases x with
  | none=>rw[show cs=[.map none] from h];rfl
  | some m=>obtain⟨r,es,c,rfl,_⟩:=h;rfl
def Zya (x:Option MPd) (s:List UInt8):Option Int:=match x with
 | none=>none
 | some m=>Z1a m s
theorem Zgs {w w':World} {e:Loc} (h:e.holds w) (same:∀ b,e.blk=some b→w'.heap[b]? = w.heap[b]?):e.holds w':=by
 cases e with
 | box b T cs=>show _=_;rw[same b rfl];exact h
 | own b T sz n cap cs =>
  cases b with
  | none=>exact h
  | some b=>obtain⟨h1,c,h2,h3⟩:=h;exact⟨h1,c,by rw[same b rfl];exact h2,h3⟩
 | mp b l=>obtain⟨es,c,h1,h2⟩:=h;exact⟨es,c,by rw[same b rfl];exact h1,h2⟩
 | it b s p=>show _=_;rw[same b rfl];exact h
theorem St.setIt {K:Nat} {w0:Base} {v0:Zb} {σ:List (Nat×Value)} {ℓ:List Loc} {v:Zb} {a:Act} {w:World} {b p p':Nat} {s:List UInt8} (h:St K w0 v0 σ (.it b s p :: ℓ) v a w) :
  St K w0 v0 σ (.it b s p' :: ℓ) v a { w with heap:=w.heap.setIfInBounds b (.stringIter ⟨s.toArray⟩ p') }:=by
 obtain⟨h1,h3⟩:=h.loc _ List.mem_cons_self;obtain⟨h4,h5⟩:=h3 b rfl;have h1:w.heap[b]? = some (.stringIter ⟨s.toArray⟩ p):=h1;have hs:=Go.MapKept.heap_set (o':=.stringIter ⟨s.toArray⟩ p') h1;have nd:=h.nd;have nb:∀ e ∈ ℓ,∀ b',e.blk=some b'→b'≠b:=by
  intro e he b' hb' hbb;subst hbb;exact (List.nodup_cons.1 nd).1 (List.mem_filterMap.2 ⟨e,he,hb'⟩)
 refine⟨h.size,h.dfr,h.fr,⟨h.ext.os,h.ext.tape,h.ext.output,by simpa using h.ext.size,λk hk hn=>?_⟩,⟨h.vst.le,λk o hk=>?_,h.vst.old⟩,λe he=>?_,nd⟩
 ·have hkb:k≠b:=by
   rintro rfl;rcases h4 with h' | h'
   ·omega
   ·exact hn h'
  exact (hs.2 k hkb).trans (h.ext.block k hk hn)
 ·have hkb:k≠b:=by
   rintro rfl;rw[h5]at hk;cases hk
  exact (hs.2 k hkb).trans (h.vin k o hk)
 ·rcases List.mem_cons.1 he with rfl | he
  ·exact⟨hs.1,h3⟩
  ·obtain⟨q1,q2⟩:=h.loc e (List.mem_cons_of_mem _ he);exact⟨Zgs q1 λb' hb'=>hs.2 b' (nb e he b' hb'),q2⟩
theorem ZTu {P:Program} {w:World} {b p:Nat} {s:List UInt8} {c:UInt8} {ty:TypeId} (h:w.heap[b]? = some (.stringIter ⟨s.toArray⟩ p)) (hc:s[p]? = some c) (ha:c.toNat<128) :
  (Instr.next (.pointer (some ⟨b,0,none⟩)) true ty).run P w = .ok (.tuple #[.bool true,.int .i64 p,.int .i32 c.toNat]) { w with heap:=w.heap.setIfInBounds b (.stringIter ⟨s.toArray⟩ (p+1)) }:=by
 obtain⟨hp,hcc⟩:=List.getElem?_eq_some_iff.1 hc;have hsz:p<(ByteArray.mk s.toArray).size:=by simpa [ByteArray.size] using hp
 have hget:(ByteArray.mk s.toArray)[p]'hsz=c:=by rw[← hcc];rfl
 have hd:Utf8.decode ⟨s.toArray⟩ p=(c.toNat,1):=by
  have:=decode_ascii ⟨s.toArray⟩ p hsz (by rw[hget];exact ha);rw[this,hget]
 simp only[Instr.next,getObj,setObj,Sem.run_bind,Sem.run,h,Result.andThen,hsz,if_true,hd];simp[goInt,Sem.run,h]
theorem Zow {P:Program} {w:World} {b p:Nat} {s:List UInt8} {ty:TypeId} (h:w.heap[b]? = some (.stringIter ⟨s.toArray⟩ p)) (hp:¬ p<s.length) :
  (Instr.next (.pointer (some ⟨b,0,none⟩)) true ty).run P w = .ok (.tuple #[.bool false]) w:=by
 have hsz:¬ p<(ByteArray.mk s.toArray).size:=by simpa [ByteArray.size] using hp
 simp[Instr.next,getObj,Sem.run,h,hsz]
theorem St.setMap {K:Nat} {w0:Base} {v0:Zb} {σ:List (Nat×Value)} {ℓ:List Loc} {v:Zb} {a:Act} {w:World} {b:Nat} {l l':List (Value×Value)} {es':Array MapEntry} {c':Nat} (h:St K w0 v0 σ (.mp b l :: ℓ) v a w) (hl:es'.toList.map (λe=>(e.key,e.val))=l') :
  St K w0 v0 σ (.mp b l' :: ℓ) v a { w with heap:=w.heap.setIfInBounds b (.map es' c') }:=by
 obtain⟨⟨es,c,h1,h2⟩,h3⟩:=h.loc _ List.mem_cons_self;obtain⟨h4,h5⟩:=h3 b rfl;have hs:=Go.MapKept.heap_set (o':=.map es' c') h1;have nd:=h.nd;have nb:∀ e ∈ ℓ,∀ b',e.blk=some b'→b'≠b:=by
  intro e he b' hb' hbb;subst hbb;exact (List.nodup_cons.1 nd).1 (List.mem_filterMap.2 ⟨e,he,hb'⟩)
 refine⟨h.size,h.dfr,h.fr,⟨h.ext.os,h.ext.tape,h.ext.output,by simpa using h.ext.size,λk hk hn=>?_⟩,⟨h.vst.le,λk o hk=>?_,h.vst.old⟩,λe he=>?_,nd⟩
 ·have hkb:k≠b:=by
   rintro rfl;rcases h4 with h' | h'
   ·omega
   ·exact hn h'
  exact (hs.2 k hkb).trans (h.ext.block k hk hn)
 ·have hkb:k≠b:=by
   rintro rfl;rw[h5]at hk;cases hk
  exact (hs.2 k hkb).trans (h.vin k o hk)
 ·rcases List.mem_cons.1 he with rfl | he
  ·exact⟨⟨es',c',hs.1,hl⟩,h3⟩
  ·obtain⟨q1,q2⟩:=h.loc e (List.mem_cons_of_mem _ he);exact⟨Zgs q1 λb' hb'=>hs.2 b' (nb e he b' hb'),q2⟩
theorem ZUs (hm:P.underlying mty=some (.map kt et)) (hk:P.underlying kt=some .string) {z0:Int} (hz:(zeroValue et).run P w = .ok (.int .i64 z0) w):(Instr.lookup mty (.map none) (.string (Zg s)) true).run P w = .ok (.tuple #[.int .i64 z0,.bool false]) w:=by
 unfold Instr.lookup;have e1:Instr.findNow .string (.string (Zg s)) ([]:List MapEntry) 0=some none:=rfl;simp[run_underlying hm,Go.MapKept.run_checkKey hk (ZZh _),Go.MapKept.run_findKey hk e1,hz,Result.andThen]
theorem ZWu {v:Zb} {x:Value} {y:Option MPd} (hm:P.underlying mty=some (.map kt et)) (hk:P.underlying kt=some .string) {z0:Int} (hz:(zeroValue et).run P w = .ok (.int .i64 z0) w) (hv:VIn v w) (h:rMp.rel v [x] y):(Instr.lookup mty x (.string (Zg s)) true).run P w = .ok (.tuple #[.int .i64 ((Zya y s).getD z0),.bool (Zya y s).isSome]) w:=by
 cases y with
 | none =>
  obtain rfl:x = .map none:=by have:=List.cons.inj (show [x]=[.map none] from h);exact this.1
  exact ZUs hm hk hz
 | some m =>
  obtain⟨r,es,c,h1,h2,h3,_⟩:=h;obtain rfl:x = .map (some r):=(List.cons.inj h1).1;exact ZEt hm hk hz (hv _ _ h2) h3
theorem Zjs (hm:P.underlying mty=some (.map kt et)) (hk:P.underlying kt=some .string) {z0:Int} (hz:(zeroValue et).run P w = .ok (.int .i64 z0) w) (hb:w.heap[r]? = some (.map es clock)) (h:mpL es.toList m):(Instr.lookup mty (.map (some r)) (.string (Zg s)) false).run P w = .ok (.int .i64 ((Z1a m s).getD z0)) w:=by
 obtain⟨a,e1,e2⟩:=Z9i s es.toList m 0 h;unfold Instr.lookup;simp[run_underlying hm,Go.MapKept.run_getObj_map hb,Go.MapKept.run_checkKey hk (ZZh _),Go.MapKept.run_findKey hk e1,Result.andThen]
 cases hg:Z1a m s with
 | none =>
  rw[hg]at e2
  cases a with
  | none=>simp[hz,Result.andThen]
  | some p=>cases e2
 | some x =>
  rw[hg]at e2
  cases a with
  | none=>cases e2
  | some p =>
   have:p.2 = .int .i64 x:=Option.some.inj e2;simp[this,Result.andThen]
theorem ZPp (hm:P.underlying mty=some (.map kt et)) (hk:P.underlying kt=some .string) {z0:Int} (hz:(zeroValue et).run P w = .ok (.int .i64 z0) w):(Instr.lookup mty (.map none) (.string (Zg s)) false).run P w = .ok (.int .i64 z0) w:=by
 unfold Instr.lookup;have e1:Instr.findNow .string (.string (Zg s)) ([]:List MapEntry) 0=some none:=rfl;simp[run_underlying hm,Go.MapKept.run_checkKey hk (ZZh _),Go.MapKept.run_findKey hk e1,hz,Result.andThen]
theorem Zqy {v:Zb} {x:Value} {y:Option MPd} (hm:P.underlying mty=some (.map kt et)) (hk:P.underlying kt=some .string) {z0:Int} (hz:(zeroValue et).run P w = .ok (.int .i64 z0) w) (hv:VIn v w) (h:rMp.rel v [x] y):(Instr.lookup mty x (.string (Zg s)) false).run P w = .ok (.int .i64 ((Zya y s).getD z0)) w:=by
 cases y with
 | none =>
  obtain rfl:x = .map none:=by have:=List.cons.inj (show [x]=[.map none] from h);exact this.1
  exact ZPp hm hk hz
 | some m =>
  obtain⟨r,es,c,h1,h2,h3,_⟩:=h;obtain rfl:x = .map (some r):=(List.cons.inj h1).1;exact Zjs hm hk hz (hv _ _ h2) h3
theorem ZEm:∀ {m:MPd} {s:List UInt8} {x:Int},Z1a m s=some x→∃ y ∈ m,y.2=x
 | [],s,x,h=>by cases h
 | y :: m,s,x,h=>by
  unfold Z1a at h
  by_cases e:y.1=s
  ·rw[iP e]at h
   exact⟨y,.head _,Option.some.inj h⟩
  ·rw[iN e]at h
   obtain⟨z,hz,h2⟩:=ZEm h
   exact⟨z,.tail _ hz,h2⟩
theorem ZLr {v:Zb} {cs:List Value} {y:Option MPd} (h:rMp.rel v cs y) (s:List UInt8) {z0:Int} (h0:inR .i64 z0):inR .i64 ((Zya y s).getD z0):=by
 cases y with
 | none=>exact h0
 | some m =>
  obtain⟨r,es,c,_,_,_,h4⟩:=h;show inR .i64 ((Z1a m s).getD z0)
  cases e:Z1a m s with
  | none=>exact h0
  | some x =>
   obtain⟨z,hz,h2⟩:=ZEm e;show inR .i64 x;rw[← h2];exact h4 z hz
end
end Go.Eng
namespace Go.Eng
open Go.RowKit
inductive T where
 | int (k:IntKind) | bool | flt (k:FloatKind) | str
 | one (a:T) | pair (a b:T) | slice (a:T) | leaf (i:Nat) | ptr (a:T)
abbrev StepD:Type:=List UInt8×List (List UInt8)×List (Int×Rat×List UInt8)
def Zxn:Nat→Type
 | 0=>Nat
 | 1=>Nat
 | 2=>Int
 | 3=>Rat
 | 4=>Rat
 | 5=>Option MPd
 | 7=>List StepD
 | _=>Unit
def rUnit:Rep Unit where
 n:=1
 agg:=false
 rel _ cs _:=∃ y,cs=[y]∧plain y=true
 len h:=by obtain⟨y,rfl,_⟩:=h;rfl
 mono _ h:=h
 flat h:=by obtain⟨y,rfl,h⟩:=h;simp[h]
abbrev rStepD:Rep StepD:=ZD ZE (ZD (Zs ZE) (Zs (ZD (Zd .i64) (ZD ZUa ZE))))
def Zzl:Rep (List StepD) where
 n:=1
 agg:=false
 rel v cs x:=(x=[]→cs=[.slice none 0 0])∧(Zs rStepD).rel v cs x
 len h:=(Zs rStepD).len h.2
 mono hv h:=⟨h.1,(Zs rStepD).mono hv h.2⟩
 flat h:=(Zs rStepD).flat h.2
def ZCm:(i:Nat)→Rep (Zxn i)
 | 0=>Zu
 | 1=>Zeb
 | 2=>Zkb
 | 3=>ZUa
 | 4=>rQ
 | 5=>rMp
 | 6=>rUnit
 | 7=>Zzl
 | _+8=>rUnit
def T.den:T→Type
 | .int _=>Int
 | .bool=>Bool
 | .flt _=>Nat
 | .str=>List UInt8
 | .one a=>a.den
 | .pair a b=>a.den×b.den
 | .slice a=>List a.den
 | .ptr a=>a.den
 | .leaf i=>Zxn i
def T.rep:(t:T)→Rep t.den
 | .int k=>Zd k
 | .bool=>Znb
 | .flt k=>ZB k
 | .str=>ZE
 | .one a=>rOne a.rep
 | .pair a b=>ZD a.rep b.rep
 | .slice a=>Zs a.rep
 | .ptr a=>rPtr a.rep
 | .leaf i=>ZCm i
def T.n:T→Nat
 | .one a=>a.n
 | .pair a b=>a.n+b.n
 | .leaf 2=>2
 | .leaf 3=>3
 | .leaf 4=>3
 | _=>1
def T.agg:T→Bool
 | .one _=>true
 | .pair _ _=>true
 | .leaf 2=>true
 | .leaf 3=>true
 | .leaf 4=>true
 | _=>false
def kEq:IntKind→IntKind→Bool
 | .i8,.i8 | .i16,.i16 | .i32,.i32 | .i64,.i64 | .u8,.u8 | .u16,.u16 | .u32,.u32 | .u64,.u64=>true
 | _,_=>false
theorem ZAc {k k':IntKind} (h:kEq k k'=true):k=k':=by cases k <;> cases k' <;> first | rfl | cases h
def fEqK:FloatKind→FloatKind→Bool
 | .f32,.f32 | .f64,.f64=>true
 | _,_=>false
theorem Z1o {k k':FloatKind} (h:fEqK k k'=true):k=k':=by cases k <;> cases k' <;> first | rfl | cases h
def T.beq:T→T→Bool
 | .int k,.int k'=>kEq k k'
 | .bool,.bool=>true
 | .flt k,.flt k'=>fEqK k k'
 | .str,.str=>true
 | .one a,.one b=>T.beq a b
 | .pair a b,.pair c d=>match T.beq a c with | true=>T.beq b d | false=>false
 | .slice a,.slice b=>T.beq a b
 | .ptr a,.ptr b=>T.beq a b
 | .leaf i,.leaf j=>Nat.beq i j
 | _,_=>false
theorem T.beq_eq:∀ {s t:T},T.beq s t=true→s=t:=by
 intro s
 induction s with
 | int k=>intro t h;cases t <;> simp only[T.beq]at h <;> first | (cases h;done) | (rw[ZAc h])
 | bool=>intro t h;cases t <;> simp only[T.beq]at h <;> first | rfl | cases h
 | flt k=>intro t h;cases t <;> simp only[T.beq]at h <;> first | (cases h;done) | (rw[Z1o h])
 | str=>intro t h;cases t <;> simp only[T.beq]at h <;> first | rfl | cases h
 | one a ih=>intro t h;cases t <;> simp only[T.beq]at h <;> first | (cases h;done) | (rw[ih h])
 | pair a b ia ib =>
  intro t h
  cases t <;> simp only[T.beq]at h
  all_goals first | (cases h;done) | skip
  rename_i c d
  cases hac:T.beq a c
  ·rw[hac]at h;cases h
  ·rw[hac]at h;rw[ia hac,ib h]
 | slice a ih=>intro t h;cases t <;> simp only[T.beq]at h <;> first | (cases h;done) | (rw[ih h])
 | leaf i=>intro t h;cases t <;> simp only[T.beq]at h <;> first | (cases h;done) | (rw[eQ h])
 | ptr a ih=>intro t h;cases t <;> simp only[T.beq]at h <;> first | (cases h;done) | (rw[ih h])
def T.castB (s t:T):(b:Bool)→(T.beq s t=b)→s.den→Option t.den
 | true,h,x=>some (T.beq_eq h ▸ x)
 | false,_,_=>none
def T.cast (s t:T) (x:s.den):Option t.den:=T.castB s t (T.beq s t) rfl x
def ZC:List T→Type
 | []=>Unit
 | [t]=>t.den
 | t :: u :: r=>t.den×ZC (u :: r)
inductive V where
 | data (t:T) (x:t.den)
 | nilS
 | own (u:Nat)
 | row (u i hv cv:Nat) (t:T) (r:List t.den)
 | ptr (u off:Nat)
 | el (u i cv:Nat) (t:T) (x:t.den) (off:Nat)
 | rp (u i hv cv:Nat) (t:T) (r:List t.den)
 | rel (u i j hv cv:Nat) (t:T) (r:List t.den) (x:t.den) (off:Nat)
 | vp (t:T) (x:t.den) (off:Nat)
 | nl
 | cons (a b:V)
 | agg (c:V)
 | tup (c:V)
 | fn (f:Nat) (c:V)
 | ifc (ty:TypeId) (c:V)
 | undef
inductive Mid where
 | hol (i:Nat)
 | swp (i j:Nat)
inductive LV where
 | box (ty:TypeId) (c:V)
 | own (ty:TypeId) (t:T) (l:List t.den) (fz:Bool)
 | mat (ty ty2:TypeId) (t:T) (m:List (List t.den)) (hv:Nat)
 | mid (ty ty2:TypeId) (t:T) (m:List (List t.den)) (hv:Nat) (s:Mid)
 | mp (m:Option MPd)
 | lst (ty:TypeId) (t:T) (l:List t.den) (c:V)
 | it (s:List UInt8) (p:Nat)
inductive Ev (ρ:Type):Type 1 where
 | fail
 | done (r:ρ)
 | rdS (t:Nat) (k:V→Ev ρ)
 | rdL (u:Nat) (k:Nat→LV→Ev ρ)
 | wrS (t:Nat) (x:V) (e:Ev ρ)
 | wrL (u:Nat) (L:LV) (e:Ev ρ)
 | new (u:Nat) (L:LV) (e:Ev ρ)
 | del (u:Nat) (e:Ev ρ)
 | bind {β:Type} (x:Option β) (k:β→Ev ρ)
 | test (t:Nat) (e1 e2:Ev ρ)
 | alt (b:Bool) (e1 e2:Ev ρ)
structure En (β:Type) where
 k:Nat
 st:Nat
 x:β
def lkE {β:Type}:List (En β)→Nat→Option (En β)
 | [],_=>none
 | p :: r,t=>match Nat.beq p.k t with
  | true=>some p
  | false=>lkE r t
def era {β:Type}:List (En β)→Nat→List (En β)
 | [],_=>[]
 | p :: r,t=>match Nat.beq p.k t with
  | true=>r
  | false=>p :: era r t
def ZV {β:Type}:List (Nat×β)→Nat→Option β
 | [],_=>none
 | p :: r,t=>match Nat.beq p.1 t with
  | true=>some p.2
  | false=>ZV r t
abbrev Fr:=List (En V)
abbrev Lo:=List (En LV)
def Zja:List Nat→Nat→Bool
 | [],_=>false
 | k :: r,t=>match Nat.beq k t with
  | true=>true
  | false=>Zja r t
def ZIa {ρ α:Type} (n:Nat):Ev ρ→Fr→Lo→(ρ→Fr→Lo→Option α)→Option α
 | .fail,_,_,_=>none
 | .done r,f,l,K=>K r f l
 | .rdS t k,f,l,K=>match lkE f t with
  | some x=>ZIa n (k x.x) f l K
  | none=>none
 | .rdL u k,f,l,K=>match lkE l u with
  | some x=>ZIa n (k x.st x.x) f l K
  | none=>none
 | .wrS t x e,f,l,K=>ZIa n e (⟨t,n,x⟩ :: f) l K
 | .wrL u L e,f,l,K=>ZIa n e f (⟨u,n,L⟩ :: era l u) K
 | .new u L e,f,l,K=>match lkE l u with
  | none=>ZIa n e f (⟨u,n,L⟩ :: l) K
  | some _=>none
 | .del u e,f,l,K=>ZIa n e f (era l u) K
 | .bind x k,f,l,K=>bnd x λy=>ZIa n (k y) f l K
 | .test t e1 e2,f,l,K=>match lkE f t with
  | some ⟨_,s,.data .bool b⟩=>ifb b (ZIa n e1 (⟨t,s,.data .bool true⟩ :: f) l K) (ZIa n e2 (⟨t,s,.data .bool false⟩ :: f) l K)
  | _=>none
 | .alt b e1 e2,f,l,K=>ifb b (ZIa n e1 f l K) (ZIa n e2 f l K)
def V.size:V→Nat
 | .data t _=>t.n
 | .nl=>0
 | .cons a b=>a.size+b.size
 | .agg c=>c.size
 | _=>1
def V.isAgg:V→Bool
 | .data t _=>t.agg
 | .agg _=>true
 | _=>false
def Zah:(t:T)→t.den→V
 | .pair a b,x=>.cons (.data a x.1) (Zah b x.2)
 | t,x=>.cons (.data t x) .nl
def Zue (t:T) (x:t.den):Option V:=match t,x with
 | .pair a b,x=>some (Zah (.pair a b) x)
 | .one a,x=>some (.cons (.data a x) .nl)
 | .leaf 2,(i:Int)=>some (.cons (.data .bool (decide (i<0))) (.cons (.data (.leaf 0) i.natAbs) .nl))
 | .leaf 3,(q:Rat)=>some (.cons (.data (.leaf 2) q.num) (.cons (.data (.leaf 0) (ZCa q.den)) .nl))
 | .leaf 4,(q:Rat)=>some (.cons (.data .bool (decide (q.num<0))) (.cons (.data (.leaf 1) q.num.natAbs) (.cons (.data (.leaf 1) q.den) .nl)))
 | _,_=>none
def Zac (t:T) (x:t.den):Option V:=match t,x with
 | .pair a b,x=>some (.cons (.data a x.1) (.cons (.data b x.2) .nl))
 | t,x=>Zue t x
def eqB (a b:Bool):Bool:=match a,b with
 | true,true=>true
 | false,false=>true
 | _,_=>false
def Zga:Nat→V→Nat→Nat→Bool→Option V
 | 0,_,_,_,_=>none
 | g+1,v,off,n,ag=>match v with
  | .nl=>none
  | .cons a b=>match Nat.ble (off+n) a.size with
   | true=>Zga g a off n ag
   | false=>match Nat.ble a.size off with
    | true=>Zga g b (off-a.size) n ag
    | false=>none
  | v=>match Nat.beq off 0,Nat.beq v.size n,eqB v.isAgg ag with
   | true,true,true=>some v
   | _,_,_=>match v with
    | .agg c=>Zga g c off n ag
    | .data t x=>match Zac t x with
     | some c=>Zga g c off n ag
     | none=>none
    | _=>none
def Z2a:Nat→V→Nat→V→Option V
 | 0,_,_,_=>none
 | g+1,v,off,z=>match v with
  | .nl=>none
  | .cons a b=>match Nat.ble (off+z.size) a.size with
   | true=>match Z2a g a off z with
    | some a'=>some (.cons a' b)
    | none=>none
   | false=>match Nat.ble a.size off with
    | true=>match Z2a g b (off-a.size) z with
     | some b'=>some (.cons a b')
     | none=>none
    | false=>none
  | v=>match Nat.beq off 0,Nat.beq v.size z.size,eqB v.isAgg z.isAgg with
   | true,true,true=>some z
   | _,_,_=>match v with
    | .agg c=>match Z2a g c off z with
     | some c'=>some (.agg c')
     | none=>none
    | .data t x=>match Zac t x with
     | some c=>match Z2a g c off z with
      | some c'=>some (.agg c')
      | none=>none
     | none=>none
    | _=>none
def FU:Nat:=40
def words (B:Nat) (n:Nat):List Int:=Zc B n
def cvtQ (s t:T) (x:s.den):Option t.den:=match T.cast s t x with
 | some y=>some y
 | none=>match T.cast s (.pair .bool (.pair (.leaf 1) (.leaf 1))) x with
  | some r=>match Zzd (Prod.fst r) (Prod.fst (Prod.snd r)) (Prod.snd (Prod.snd r)) with
   | some q=>T.cast (.leaf 4) t q
   | none=>none
  | none=>none
def both2 {α β:Type}:Option α→Option β→Option (α×β)
 | some y,some z=>some (y,z)
 | _,_=>none
def cvt:(s t:T)→s.den→Option t.den
 | .pair a b,t,x=>match t with
  | .pair c d=>both2 (cvt a c x.1) (cvt b d x.2)
  | t=>cvtQ (.pair a b) t x
 | s,t,x=>cvtQ s t x
def cvtL (s t:T):List s.den→Option (List t.den)
 | []=>some []
 | x :: r=>match cvt s t x,cvtL s t r with
  | some y,some z=>some (y :: z)
  | _,_=>none
def conv {ρ:Type}:Nat→(t:T)→V→(t.den→Ev ρ)→Ev ρ
 | 0,_,_,_=>.fail
 | g+1,t,v,k=>match v with
  | .data s x=>match T.cast s t x with
   | some y=>k y
   | none=>match s,t,x,k with
    | .leaf 0,.slice (.int .u64),(n:Nat),k=>k (Zc 18446744073709551616 n)
    | .leaf 1,.slice (.int .u32),(n:Nat),k=>k (Zc 4294967296 n)
    | .slice (.int .u64),.leaf 0,(l:List Int),k=>.bind (clo l) k
    | .slice (.int .u32),.leaf 1,(l:List Int),k=>.bind (Z7b l) k
    | .leaf 7,.slice b,(l:List StepD),k=>conv g (.slice b) (.data (.slice (.pair .str (.pair (.slice .str) (.slice (.pair (.int .i64) (.pair (.leaf 3) .str)))))) l) k
    | .slice a,.slice b,(l:List a.den),k=>.bind (cvtL a b l) k
    | s,t,x,k=>match Zue s x with
     | some c=>conv g t (.agg c) k
     | none=>.fail
  | .nilS=>match t,k with
   | .slice _,k=>k []
   | .leaf 0,k=>k (0:Nat)
   | .leaf 1,k=>k (0:Nat)
   | .leaf 7,k=>k ([]:List StepD)
   | _,_=>.fail
  | .own u=>.rdL u λ_ L=>match L with
   | .own _ s l true=>conv g t (.data (.slice s) l) k
   | .own ty s l false=>.wrL u (.own ty s l true) (conv g t (.data (.slice s) l) k)
   | .mat ty _ s m _=>.wrL u (.own ty (.slice s) m true) (conv g t (.data (.slice (.slice s)) m) k)
   | .box _ _=>.fail
   | .mid _ _ _ _ _ _=>.fail
   | .lst _ s _ c=>match t,k with
    | .slice t',k=>conv g s c λx=>.rdL u λ_ L=>match L with
     | .lst ty s2 l2 _=>match T.cast s s2 x with
      | some x'=>.wrL u (.own ty s2 (l2++[x']) true) (conv g (.slice t') (.data (.slice s2) (l2++[x'])) k)
      | none=>.fail
     | _=>.fail
    | _,_=>.fail
   | .it _ _=>.fail
   | .mp m=>match t,k with
    | .leaf 5,k=>.del u (k (m:Option MPd))
    | _,_=>.fail
  | .agg (.cons v (.cons v' r))=>match t,r,k with
   | .leaf 2,.nl,k=>conv g .bool v λ(s:Bool)=>conv g (.leaf 0) v' λ(n:Nat)=>.bind (Zyd s n) k
   | .leaf 3,.nl,k=>conv g (.leaf 2) v λ(i:Int)=>conv g (.leaf 0) v' λ(n:Nat)=>.bind (Zne i n) k
   | .leaf 4,.cons v'' .nl,k=>conv g .bool v λ(s:Bool)=>conv g (.leaf 1) v' λ(n:Nat)=>conv g (.leaf 1) v'' λ(d:Nat)=>.bind (Zzd s n d) k
   | .pair a b,.nl,k=>conv g a v λx=>conv g b v' λy=>k (x,y)
   | .pair a b,r,k=>conv g a v λx=>conv g b (.agg (.cons v' r)) λy=>k (x,y)
   | _,_,_=>.fail
  | .agg (.cons v .nl)=>match t,k with
   | .one a,k=>conv g a v k
   | _,_=>.fail
  | .ptr u 0=>match t,k with
   | .ptr a,k=>.rdL u λ_ L=>match L with
    | .box _ c=>conv g a c λy=>.rdL u λ_ L2=>match L2 with
     | .box _ _=>.del u (k y)
     | _=>.fail
    | _=>.fail
   | .leaf 6,k=>k ()
   | _,_=>.fail
  | _=>.fail
def inN (i n:Nat):Option Unit:=if i<n then some () else none
structure Con where
 args:List T
 res:List T
 F:ZC args→Option (ZC res)
structure ConO where
 args:List T
 ty:TypeId
 t:T
 F:ZC args→Option (List t.den)
structure ConM where
 args:List T
 ty:TypeId
 ty2:TypeId
 t:T
 F:ZC args→Option (List (List t.den))
structure ConI where
 ty:TypeId
 t:T
 F:List t.den→Int→t.den→Option (List t.den)
inductive CT where
 | dat (t:T)
 | own (ty:TypeId) (t:T)
 | mat (ty ty2:TypeId) (t:T)
 | nl
 | one (a:CT)
 | cons (a b:CT)
 | agg (c:CT)
 | box (ty:TypeId) (c:CT)
 | mp
 | lst (ty tyD tyG:TypeId) (g:T)
 | it
abbrev stepT (g:T):T:=.pair .str (.pair (.slice .str) (.slice g))
def CT.den:CT→Type
 | .dat t=>t.den
 | .own _ t=>List t.den
 | .mat _ _ t=>List (List t.den)
 | .nl=>Unit
 | .one a=>a.den
 | .cons a b=>a.den×b.den
 | .agg c=>c.den
 | .box _ c=>c.den
 | .mp=>Option MPd
 | .lst _ _ _ g=>Option (List (List UInt8×List (List UInt8)×List g.den)×(List UInt8×List (List UInt8)×List g.den))
 | .it=>List UInt8×Nat
structure ConB where
 ty:TypeId
 c:CT
 args:List T
 res:List T
 F:c.den→ZC args→Option (c.den×ZC res)
structure ConD where
 ty:TypeId
 t:T
 F:List t.den→Int→Int→Option (List t.den)
structure ConP where
 args:List T
 ty:TypeId
 t:T
 res:List T
 F:ZC args→Option (List t.den×ZC res)
structure ConS where
 ty:TypeId
 t:T
 args:List T
 res:List T
 F:List t.den→ZC args→Option (List t.den×ZC res)
structure Ex where
 pows:List (FuncId×ConP):=[]
 omats:List (FuncId×ConM):=[]
 boxs:List (FuncId×ConB):=[]
 dels:List (FuncId×ConD):=[]
 sls:List (FuncId×ConS):=[]
 pan:Option (FuncId×List PanicEntry):=none
structure Cf where
 P:Program
 leafs:List (TypeId×Nat)
 cons:List (FuncId×Con)
 mats:List Nat
 owns:List (FuncId×ConO)
 ins:List (FuncId×ConI)
 meths:List ((TypeId×String)×FuncId)
 ex:Ex:={}
abbrev Cf.omats (C:Cf):=C.ex.omats
abbrev Cf.boxs (C:Cf):=C.ex.boxs
abbrev Cf.dels (C:Cf):=C.ex.dels
abbrev Cf.sls (C:Cf):=C.ex.sls
abbrev Cf.pows (C:Cf):=C.ex.pows
def lkM:List ((TypeId×String)×FuncId)→TypeId→String→Option FuncId
 | [],_,_=>none
 | p :: r,t,m=>match Nat.beq p.1.1 t,p.1.2==m with
  | true,true=>some p.2
  | _,_=>lkM r t m
def codeF (f:TypeId→Option T):TypeId→List Field→Option T
 | t,[]=>f t
 | t,h :: r=>match f t,codeF f h.type r with
  | some a,some b=>some (.pair a b)
  | _,_=>none
def Zpa (a:T):Nat→T
 | 0=>.one a
 | 1=>.one a
 | 2=>.pair a a
 | k+3=>.pair a (Zpa a (k+2))
def Z7a (a:T):(n:Nat)→(Zpa a n).den→List a.den
 | 0,_=>[]
 | 1,x=>[x]
 | 2,x=>[x.1,x.2]
 | k+3,x=>x.1 :: Z7a a (k+2) x.2
def ZTc (C:Cf):Nat→TypeId→Option T
 | 0,_=>none
 | g+1,t=>match ZV C.leafs t with
  | some i=>some (.leaf i)
  | none=>match C.P.underlying t with
   | some (.int k)=>some (.int k)
   | some .bool=>some .bool
   | some (.float k)=>some (.flt k)
   | some .string=>some .str
   | some (.slice e)=>match ZTc C g e with
    | some a=>some (.slice a)
    | none=>none
   | some (.array n e)=>match ZTc C g e,Nat.blt 0 n with
    | some a,true=>some (Zpa a n)
    | _,_=>none
   | some (.struct fs)=>match fs.toList with
    | []=>none
    | [f]=>match ZTc C g f.type with
     | some a=>some (.one a)
     | none=>none
    | f :: h :: r=>codeF (ZTc C g) f.type (h :: r)
   | _=>none
def zeroLf:(i:Nat)→Option (Zxn i)
 | 0=>some (0:Nat)
 | 1=>some (0:Nat)
 | 2=>some (0:Int)
 | 3=>some (0:Rat)
 | 5=>some (none:Option MPd)
 | _=>none
def arrS (a:T):(n:Nat)→(Zpa a n).den→Nat→a.den→(Zpa a n).den
 | 0,x,_,_=>x
 | 1,x,i,y=>match i with
  | 0=>y
  | _+1=>x
 | 2,x,i,y=>match i with
  | 0=>(y,x.2)
  | 1=>(x.1,y)
  | _+2=>x
 | k+3,x,i,y=>match i with
  | 0=>(y,x.2)
  | i+1=>(x.1,arrS a (k+2) x.2 i y)
def Zrf:(t:T)→Option t.den
 | .int _=>some (0:Int)
 | .bool=>some false
 | .flt _=>some (0:Nat)
 | .str=>some ([]:List UInt8)
 | .one a=>Zrf a
 | .pair a b=>match Zrf a,Zrf b with
  | some x,some y=>some (x,y)
  | _,_=>none
 | .slice _=>some []
 | .leaf i=>zeroLf i
 | .ptr _=>none
def zSl:List Value→Option (List Value)
 | .slice none 0 0 :: r=>some r
 | _=>none
def zOK:T→List Value→Option (List Value)
 | .int k,.int k' n :: r=>match kEq k k',n with
  | true,.ofNat 0=>some r
  | _,_=>none
 | .bool,.bool false :: r=>some r
 | .flt k,.float k' 0 :: r=>match fEqK k k' with
  | true=>some r
  | false=>none
 | .str,.string s :: r=>match s.data.toList with
  | []=>some r
  | _=>none
 | .one a,cs=>zOK a cs
 | .pair a b,cs=>match zOK a cs with
  | some r=>zOK b r
  | none=>none
 | .leaf 5,.map none :: r=>some r
 | .slice _,cs=>zSl cs
 | .leaf 0,cs=>zSl cs
 | .leaf 1,cs=>zSl cs
 | .leaf 2,.bool false :: cs=>zSl cs
 | .leaf 3,.bool false :: cs=>match zSl cs with
  | some r=>zSl r
  | none=>none
 | _,_=>none
def Zvf (t:T) (cs:List Value):Option (V×List Value):=match Zrf t,zOK t cs with
 | some x,some r=>some (.data t x,r)
 | _,_=>none
def Z1i (f:TypeId→List Value→Option (V×List Value)):List Field→List Value→Option (V×List Value)
 | [],cs=>some (.nl,cs)
 | h :: r,cs=>match f h.type cs with
  | some (v,cs)=>match Z1i f r cs with
   | some (c,cs)=>some (.cons v c,cs)
   | none=>none
  | none=>none
def zRep (f:List Value→Option (V×List Value)):Nat→List Value→Option (V×List Value)
 | 0,cs=>some (.nl,cs)
 | k+1,cs=>match f cs with
  | some (v,cs)=>match zRep f k cs with
   | some (c,cs)=>some (.cons v c,cs)
   | none=>none
  | none=>none
def ZVh (C:Cf):Nat→TypeId→List Value→Option (V×List Value)
 | 0,_,_=>none
 | g+1,t,cs=>match ZV C.leafs t with
  | some 4=>match cs with
   | .bool false :: .slice none 0 0 :: .slice none 0 0 :: r=>some (.agg (.cons (.data .bool false) (.cons (.data (.leaf 1) (0:Nat)) (.cons (.data (.leaf 1) (0:Nat)) .nl))),r)
   | _=>none
  | some i=>Zvf (.leaf i) cs
  | none=>match C.P.underlying t with
   | some (.int k)=>Zvf (.int k) cs
   | some .bool=>Zvf .bool cs
   | some (.float k)=>Zvf (.flt k) cs
   | some .string=>Zvf .str cs
   | some (.slice _)=>match zSl cs with
    | some r=>some (.nilS,r)
    | none=>none
   | some (.struct fs)=>match Z1i (ZVh C g) fs.toList cs with
    | some (c,r)=>some (.agg c,r)
    | none=>none
   | some (.array n e)=>match zRep (ZVh C g e) n cs with
    | some (c,r)=>some (.agg c,r)
    | none=>none
   | _=>none
def Zrh (P:Program) (t:TypeId):Option Int:=match P.info? t with
 | some i=>match i.zero with
  | some (.int .i64 z)=>if z=0 then some z else none
  | _=>none
 | none=>none
def ZFk (C:Cf) (t:TypeId):Option V:=match C.P.info? t with
 | some i=>match i.zero with
  | some z=>match ZVh C FU t z.cells.toList with
   | some (v,[])=>some v
   | _=>none
  | none=>none
 | none=>none
def aggD:TypeDesc→Bool
 | .struct _=>true
 | .array _ _=>true
 | _=>false
def szA (P:Program) (t:TypeId):Option (Nat×Bool):=match P.info? t,P.underlying t with
 | some i,some d=>some (i.size,aggD d)
 | _,_=>none
def fldA (P:Program) (s:TypeId) (f:Nat):Option Nat:=match P.underlying s with
 | some (.struct fs)=>match fs.toList[f]? with
  | some h=>match P.info? h.type with
   | some i=>match Nat.blt 0 i.size with
    | true=>some h.offset
    | false=>none
   | none=>none
  | none=>none
 | _=>none
def fldT (P:Program) (s:TypeId) (f:Nat):Option Field:=match P.underlying s with
 | some (.struct fs)=>fs.toList[f]?
 | _=>none
def ZMh (P:Program) (t:TypeId):Option (TypeId×Nat):=match P.underlying t with
 | some (.slice e)=>match P.info? e with
  | some i=>some (e,i.size)
  | none=>none
 | _=>none
structure EI where
 e:TypeId
 sz:Nat
 by_:Nat
 z:Value
def ZFf (P:Program) (t:TypeId):Option EI:=match P.underlying t with
 | some (.slice e)=>match P.info? e with
  | some i=>match i.zero with
   | some z=>match Nat.beq z.cells.toList.length i.size,Nat.blt 0 i.size,Nat.blt 0 i.bytes with
    | true,true,true=>some ⟨e,i.size,i.bytes,z⟩
    | _,_,_=>none
   | none=>none
  | none=>none
 | _=>none
def Zdj:Value→Option V
 | .bool b=>some (.data .bool b)
 | .int k n=>if inR k n then some (.data (.int k) n) else none
 | .float k n=>if n<18446744073709551616 then some (.data (.flt k) n) else none
 | .string s=>if s.data.toList.length≤maxLen then some (.data .str s.data.toList) else none
 | .slice none 0 0=>some .nilS
 | .map none=>some (.data (.leaf 5) (none:Option MPd))
 | _=>none
def opd {ρ:Type} (x:Operand) (k:V→Ev ρ):Ev ρ:=match x with
 | .tmp t=>.rdS t k
 | .const c=>match Zdj c with
  | some v=>k v
  | none=>.fail
 | .func f=>k (.fn f .nl)
 | .global _=>.fail
def ret (o:Oper) (v:V):Ev Unit:=match o.dst with
 | some d=>.wrS d v (.done ())
 | none=>.fail
def Z3a {ρ:Type} (v:V) (k:IntKind→Int→Ev ρ):Ev ρ:=match v with
 | .data (.int κ) x=>k κ x
 | _=>.fail
def Z4k {ρ:Type} (v:V) (k:Bool→Ev ρ):Ev ρ:=match v with
 | .data .bool x=>k x
 | _=>.fail
def nthV:V→Nat→Option V
 | .cons a _,0=>some a
 | .cons _ b,n+1=>nthV b n
 | _,_=>none
def appV:V→V→V
 | .cons a b,c=>.cons a (appV b c)
 | _,c=>c
def binI {ρ:Type} (op:BinOp) (κ:IntKind) (x y:Int) (k:V→Ev ρ):Ev ρ:=match op with
 | .add=>match κ.signed with
  | true=>.bind (chk κ (x+y)) λz=>k (.data (.int κ) z)
  | false=>k (.data (.int κ) (κ.wrap (x+y)))
 | .sub=>match κ.signed with
  | true=>.bind (chk κ (x-y)) λz=>k (.data (.int κ) z)
  | false=>k (.data (.int κ) (κ.wrap (x-y)))
 | .mul=>match κ.signed with
  | true=>.bind (chk κ (x*y)) λz=>k (.data (.int κ) z)
  | false=>k (.data (.int κ) (κ.wrap (x*y)))
 | .quo=>.bind (quo κ x y) λz=>k (.data (.int κ) z)
 | .rem=>.bind (rem κ x y) λz=>k (.data (.int κ) z)
 | .and=>k (.data (.int κ) (ZEa κ x y))
 | .or=>k (.data (.int κ) (orI κ x y))
 | .xor=>k (.data (.int κ) (xorI κ x y))
 | .lss=>k (.data .bool (decide (x<y)))
 | .leq=>k (.data .bool (decide (x≤y)))
 | .gtr=>k (.data .bool (decide (y<x)))
 | .geq=>k (.data .bool (decide (y≤x)))
 | .eql=>k (.data .bool (x==y))
 | .neq=>k (.data .bool (x != y))
 | _=>.fail
def binE {ρ:Type} (P:Program) (op:BinOp) (t:TypeId) (v v':V) (k:V→Ev ρ):Ev ρ:=match v,v' with
 | .data (.int κ) x,.data (.int κ') y=>match op with
  | .shl=>.bind (ZQa κ x y) λz=>k (.data (.int κ) z)
  | .shr=>.bind (ZW κ x y) λz=>k (.data (.int κ) z)
  | op=>match kEq κ κ' with
   | true=>binI op κ x y k
   | false=>.fail
 | .data .bool (x:Bool),.data .bool (y:Bool)=>match P.underlying t with
  | some .bool=>match op with
   | .eql=>k (.data .bool (x==y))
   | .neq=>k (.data .bool (x != y))
   | _=>.fail
  | _=>.fail
 | .data .str (x:List UInt8),.data .str (y:List UInt8)=>match op with
  | .add=>.bind (Z4 (x++y)) λ_=>k (.data .str (x++y))
  | .eql=>k (.data .bool (x==y))
  | .neq=>k (.data .bool (x != y))
  | _=>.fail
 | .data (.leaf 5) (x:Option MPd),.data (.leaf 5) (none:Option MPd)=>match op,P.underlying t with
  | .eql,some (.map _ _)=>k (.data .bool x.isNone)
  | _,_=>.fail
 | .own u,.data (.leaf 5) (none:Option MPd)=>match op,P.underlying t with
  | .eql,some (.map _ _)=>.rdL u λ_ L=>match L with
   | .mp m=>k (.data .bool m.isNone)
   | _=>.fail
  | _,_=>.fail
 | _,_=>.fail
def ldE {ρ:Type} (P:Program) (t:TypeId) (p:V) (k:V→Ev ρ):Ev ρ:=match szA P t with
 | none=>.fail
 | some s=>match p with
  | .ptr u off=>.rdL u λ_ L=>match L with
   | .box _ c=>match Zga FU c off s.1 s.2 with
    | some z=>k z
    | none=>.fail
   | .lst _ _ _ c=>match Zga FU c off s.1 s.2 with
    | some z=>k z
    | none=>.fail
   | _=>.fail
  | .el u i cv e x off=>.rdL u λcv' L=>match L with
   | .own _ _ _ _=>match Nat.beq cv' cv with
    | true=>match Zga FU (.data e x) off s.1 s.2 with
     | some z=>k z
     | none=>.fail
    | false=>.fail
   | .box ty (.data t' w')=>match P.underlying ty with
    | some (.array m _)=>match T.cast t' (Zpa e m) w',Nat.beq off 0,Nat.blt 0 m with
     | some w2,true,true=>.bind (idx (Z7a e m w2) (i:Int)) λy=>match Zga FU (.data e y) 0 s.1 s.2 with
      | some z=>k z
      | none=>.fail
     | _,_,_=>.fail
    | _=>.fail
   | _=>.fail
  | .vp e x off=>match Zga FU (.data e x) off s.1 s.2 with
   | some z=>k z
   | none=>.fail
  | .rp u i hv cv e r=>.rdL u λcv' L=>match L with
   | .mat _ _ _ _ hv'=>match Nat.beq hv' hv,Nat.beq cv' cv,s.2 with
    | true,true,false=>k (.row u i hv cv e r)
    | _,_,_=>.fail
   | _=>.fail
  | .rel u _ _ hv cv e _ x off=>.rdL u λcv' L=>match L with
   | .mat _ _ _ _ hv'=>match Nat.beq hv' hv,Nat.beq cv' cv with
    | true,true=>match Zga FU (.data e x) off s.1 s.2 with
     | some z=>k z
     | none=>.fail
    | _,_=>.fail
   | _=>.fail
  | _=>.fail
def V.plain:V→Bool
 | .undef | .tup _=>false
 | .cons a b=>match a.plain with
  | true=>b.plain
  | false=>false
 | .agg c=>c.plain
 | _=>true
def V.fit (v:V):Bool:=match v.plain,v.isAgg with
 | true,true=>true
 | true,false=>Nat.beq v.size 1
 | false,_=>false
def Zkc (s t:T) (l:List s.den):Option (List t.den):=T.cast (.slice s) (.slice t) l
def ZZb (s t:T) (m:List (List s.den)):Option (List (List t.den)):=T.cast (.slice (.slice s)) (.slice (.slice t)) m
def eqN (i j:Nat):Option Unit:=if i=j then some () else none
def ZOd {α:Type} (m:List (List α)) (i j:Nat):List (List α):=(m.set i (m.getD j [])).set j (m.getD i [])
def stE (P:Program) (nid:Nat) (t:TypeId) (p v:V):Ev Unit:=match szA P t with
 | none=>.fail
 | some q=>match Nat.beq v.size q.1,eqB v.isAgg q.2,v.fit with
  | true,true,true=>match p with
   | .ptr u off=>.rdL u λ_ L=>match L with
    | .box ty c=>match Z2a FU c off v with
     | some c'=>.wrL u (.box ty c') (.done ())
     | none=>.fail
    | .lst ty s xs c=>match Z2a FU c off v with
     | some c'=>.wrL u (.lst ty s xs c') (.done ())
     | none=>.fail
    | _=>.fail
   | .el u i cv s x off=>match Z2a FU (.data s x) off v with
    | some z=>conv FU s z λy=>.rdL u λcv' L=>match L with
     | .own ty s' l false=>match Nat.beq off 0,Nat.beq v.size s.n,Nat.beq cv' cv with
      | true,true,_=>match T.cast s s' y with
       | some y'=>.wrL u (.own ty s' (l.set i y') false) (.done ())
       | none=>.fail
      | _,_,true=>match T.cast s s' y with
       | some y'=>.wrL u (.own ty s' (l.set i y') false) (.done ())
       | none=>.fail
      | _,_,_=>.fail
     | .box ty (.data t' w')=>match P.underlying ty with
      | some (.array m _)=>match Nat.beq off 0,Nat.beq v.size s.n,T.cast t' (Zpa s m) w',Nat.blt 0 m with
       | true,true,some w2,true=>.bind (inN i m) λ_=>match T.cast (Zpa s m) t' (arrS s m w2 i y) with
        | some w3=>.wrL u (.box ty (.data t' w3)) (.done ())
        | none=>.fail
       | _,_,_,_=>.fail
      | _=>.fail
     | _=>.fail
    | none=>.fail
   | .rp u i _ _ _ _=>match v with
    | .own u2=>.rdL u λ_ L=>match L with
     | .mat ty ty2 s m _=>.rdL u2 λ_ L2=>match L2 with
      | .own ty3 s' l false=>match Nat.beq ty3 ty2,Zkc s' s l with
       | true,some l'=>.del u2 (.wrL u (.mat ty ty2 s (m.set i l') nid) (.done ()))
       | _,_=>.fail
      | _=>.fail
     | .mid ty ty2 s m _ (.hol j)=>.bind (eqN i j) λ_=>.rdL u2 λ_ L2=>match L2 with
      | .own ty3 s' l false=>match Nat.beq ty3 ty2,Zkc s' s l with
       | true,some l'=>.del u2 (.wrL u (.mat ty ty2 s (m.set i l') nid) (.done ()))
       | _,_=>.fail
      | _=>.fail
     | _=>.fail
    | .row u2 j hv2 _ _ _=>.rdL u λ_ L=>match L with
     | .mat ty ty2 s m hv=>match Nat.beq u2 u,Nat.beq hv hv2 with
      | true,true=>.wrL u (.mid ty ty2 s m hv (.swp i j)) (.done ())
      | _,_=>.fail
     | .mid ty ty2 s m hv (.swp i0 j0)=>match Nat.beq u2 u,Nat.beq hv hv2 with
      | true,true=>.bind (eqN i j0) λ_=>.bind (eqN j i0) λ_=>.wrL u (.mat ty ty2 s (ZOd m i0 j0) nid) (.done ())
      | _,_=>.fail
     | _=>.fail
    | _=>.fail
   | .rel u i j hv cv s r x off=>match Z2a FU (.data s x) off v with
    | some z=>.rdL u λ_ L0=>match L0 with
     | .mat _ _ _ _ _=>conv FU s z λy=>.rdL u λcv' L=>match L with
      | .mat ty ty2 s' m hv'=>match Nat.beq hv' hv,Nat.beq cv' cv with
       | true,true=>match Zkc s s' (r.set j y) with
        | some r'=>.wrL u (.mat ty ty2 s' (m.set i r') hv') (.done ())
        | none=>.fail
       | _,_=>.fail
      | _=>.fail
     | _=>.fail
    | none=>.fail
   | _=>.fail
  | _,_,_=>.fail
def onM (C:Cf) (o:Oper):Bool:=match o.dst with
 | some d=>Zja C.mats d
 | none=>false
def onT (C:Cf) (o:Oper):Bool:=match o.dst with
 | some d=>Zja C.mats (d+100000)
 | none=>false
def takeE (P:Program) (o:Oper) (nid:Nat) (t:TypeId) (p:V):Ev Unit:=match szA P t with
 | none=>.fail
 | some s=>match p,s.2 with
  | .rp u i hv cv e r,false=>.rdL u λcv' L=>match L with
   | .mat ty ty2 s' m hv'=>match Nat.beq hv' hv,Nat.beq cv' cv,Zkc e s' r with
    | true,true,some z=>.wrL u (.mid ty ty2 s' m hv' (.hol i)) (.new nid (.own ty2 s' z false) (ret o (.own nid)))
    | _,_,_=>.fail
   | _=>.fail
  | _,_=>.fail
def shift:V→Nat→Option V
 | .ptr u off,k=>some (.ptr u (off+k))
 | .vp t x off,k=>some (.vp t x (off+k))
 | .el u i cv t x off,k=>some (.el u i cv t x (off+k))
 | .rel u i j hv cv t r x off,k=>some (.rel u i j hv cv t r x (off+k))
 | _,_=>none
def live {ρ:Type} (v:V) (k:Ev ρ):Ev ρ:=match v with
 | .ptr u _=>.rdL u λ_ L=>match L with
  | .box _ _=>k
  | .lst _ _ _ _=>k
  | _=>.fail
 | .vp _ _ _=>k
 | .el u _ _ _ _ _=>.rdL u λ_ L=>match L with
  | .own _ _ _ _=>k
  | _=>.fail
 | .rel u _ _ hv _ _ _ _ _=>.rdL u λ_ L=>match L with
  | .mat _ _ _ _ hv'=>match Nat.beq hv' hv with
   | true=>k
   | false=>.fail
  | _=>.fail
 | _=>.fail
def ixA (P:Program) (o:Oper) (t:TypeId) (v:V) (j:Int):Ev Unit:=match P.underlying t with
 | some (.array n e)=>match P.info? e,decide (0≤j),decide (j<n) with
  | some i,true,true=>match shift v (j.toNat*i.size) with
   | some z=>live v (ret o z)
   | none=>.fail
  | _,_,_=>.fail
 | _=>.fail
def alts (P:Program) (o:Oper) (t:TypeId) (v:V) (j:Int):Nat→Nat→Ev Unit
 | 0,_=>.fail
 | m+1,k=>.alt (decide (j=(k:Int))) (ixA P o t v (k:Int)) (alts P o t v j m (k+1))
def altE (P:Program) (o:Oper) (t:TypeId) (v:V) (j:Int):Ev Unit:=match P.underlying t with
 | some (.array n _)=>alts P o t v j n 0
 | _=>.fail
def ixQ (C:Cf) (o:Oper) (t:TypeId) (v:V) (j:Int):Ev Unit:=match C.P.underlying t with
 | some (.array m e)=>match ZTc C FU e,szA C.P e,Nat.blt 0 m with
  | some a,some q,true=>match Nat.beq q.1 a.n,v with
   | true,.ptr u 0=>.rdL u λcv L=>match L with
    | .box ty (.data s x)=>match Nat.beq ty t,T.cast s (Zpa a m) x with
     | true,some x'=>.bind (idx (Z7a a m x') j) λy=>ret o (.el u j.toNat cv a y 0)
     | _,_=>.fail
    | _=>.fail
   | _,_=>.fail
  | _,_,_=>.fail
 | _=>.fail
def ixW (C:Cf) (o:Oper) (t:TypeId) (v:V) (j:Int):Ev Unit:=match C.P.underlying t with
 | some (.array m e)=>match ZTc C FU e,szA C.P e,v,Nat.blt 0 m with
  | some a,some q,.data s x,true=>match Nat.beq q.1 a.n,eqB q.2 a.agg,T.cast s (Zpa a m) x with
   | true,true,some x'=>.bind (idx (Z7a a m x') j) λy=>ret o (.data a y)
   | _,_,_=>.fail
  | _,_,_,_=>.fail
 | _=>.fail
def onQ (C:Cf) (o:Oper):Bool:=match o.dst with
 | some d=>Zja C.mats (d+400000)
 | none=>false
def onA (C:Cf) (o:Oper):Bool:=match o.dst with
 | some d=>Zja C.mats (d+200000)
 | none=>false
def ixV (C:Cf) (o:Oper) (t:TypeId) (v:V) (j:Int):Ev Unit:=match C.P.underlying t with
 | some (.array n e)=>match szA C.P e,v.isAgg,decide (0≤j),decide (j<n) with
  | some q,true,true,true=>match Zga FU v (j.toNat*q.1) q.1 q.2 with
   | some z=>ret o z
   | none=>.fail
  | _,_,_,_=>.fail
 | _=>.fail
def altsV (C:Cf) (o:Oper) (t:TypeId) (v:V) (j:Int):Nat→Nat→Ev Unit
 | 0,_=>.fail
 | m+1,k=>.alt (decide (j=(k:Int))) (ixV C o t v (k:Int)) (altsV C o t v j m (k+1))
def altvE (C:Cf) (o:Oper) (t:TypeId) (v:V) (j:Int):Ev Unit:=match C.P.underlying t with
 | some (.array n _)=>altsV C o t v j n 0
 | _=>.fail
def Z6h {α:Type} (l:List α) (j:Int):Option Unit:=if j=(l.length:Int) then some () else none
def ixE (P:Program) (o:Oper) (t:TypeId) (v:V) (j:Int):Ev Unit:=match ZMh P t with
 | none=>ixA P o t v j
 | some q=>match v with
  | .own u=>.rdL u λcv L=>match L with
   | .own _ s l _=>match Nat.beq q.2 s.n with
    | true=>.bind (idx l j) λy=>ret o (.el u j.toNat cv s y 0)
    | false=>.fail
   | .mat _ _ s m hv=>match Nat.beq q.2 1 with
    | true=>.bind (idx m j) λr=>ret o (.rp u j.toNat hv cv s r)
    | false=>.fail
   | .mid _ _ s m hv _=>match Nat.beq q.2 1 with
    | true=>.bind (idx m j) λr=>ret o (.rp u j.toNat hv cv s r)
    | false=>.fail
   | .lst _ s l _=>match Nat.beq q.2 s.n with
    | true=>.bind (Z6h l j) λ_=>ret o (.ptr u 0)
    | false=>.fail
   | _=>.fail
  | .data (.slice s) l=>match Nat.beq q.2 s.n with
   | true=>.bind (idx l j) λy=>ret o (.vp s y 0)
   | false=>.fail
  | .data (.leaf 0) (n:Nat)=>match Nat.beq q.2 1 with
   | true=>.bind (idx (Zc 18446744073709551616 n) j) λy=>ret o (.vp (.int .u64) y 0)
   | false=>.fail
  | .data (.leaf 1) (n:Nat)=>match Nat.beq q.2 1 with
   | true=>.bind (idx (Zc 4294967296 n) j) λy=>ret o (.vp (.int .u32) y 0)
   | false=>.fail
  | .row u i hv cv s r=>.rdL u λcv' L=>match L with
   | .mat _ _ s' m hv'=>match Nat.beq hv' hv,Nat.beq cv' cv,Nat.beq q.2 s.n with
    | true,true,true=>.bind (idx r j) λy=>ret o (.rel u i j.toNat hv cv s r y 0)
    | true,false,true=>match ZZb s' s m with
     | some m'=>.bind (idx m' (i:Int)) λr'=>.bind (idx r' j) λy=>ret o (.rel u i j.toNat hv cv' s r' y 0)
     | none=>.fail
    | _,_,_=>.fail
   | _=>.fail
  | _=>.fail
def lenE {ρ:Type} (P:Program) (t:TypeId) (v:V) (k:Nat→Ev ρ):Ev ρ:=match v with
 | .data .str (s:List UInt8)=>match P.underlying t with
  | some .string=>k s.length
  | _=>.fail
 | v=>match ZMh P t with
  | none=>.fail
  | some _=>match v with
   | .own u=>.rdL u λ_ L=>match L with
    | .own _ _ l _=>k l.length
    | .mat _ _ _ m _=>k m.length
    | .lst _ _ l _=>k (l.length+1)
    | _=>.fail
   | .data (.slice _) l=>k l.length
   | .nilS=>k 0
   | .data (.leaf 0) (n:Nat)=>k (Zc 18446744073709551616 n).length
   | .data (.leaf 1) (n:Nat)=>k (Zc 4294967296 n).length
   | .row u _ hv _ _ r=>.rdL u λ_ L=>match L with
    | .mat _ _ _ _ hv'=>match Nat.beq hv' hv with
     | true=>k r.length
     | _=>.fail
    | _=>.fail
   | _=>.fail
def fldE {ρ:Type} (P:Program) (s:TypeId) (f:Nat) (v:V) (k:V→Ev ρ):Ev ρ:=match fldA P s f with
 | some h=>match shift v h with
  | some z=>live v (k z)
  | none=>.fail
 | none=>.fail
def Z0d {ρ:Type}:List Operand→(V→Ev ρ)→Ev ρ
 | [],k=>k .nl
 | x :: r,k=>opd x λv=>match v with
  | .tup _=>.fail
  | v=>Z0d r λc=>k (.cons v c)
def ZOc {ρ:Type}:(ts:List T)→V→(ZC ts→Ev ρ)→Ev ρ
 | [],.nl,k=>k ()
 | [t],.cons v .nl,k=>conv FU t v k
 | t :: u :: r,.cons v c,k=>conv FU t v λx=>ZOc (u :: r) c λy=>k (x,y)
 | _,_,_=>.fail
def convS {ρ:Type} (t:T):V→(List t.den→Ev ρ)→Ev ρ
 | .nl,k=>k []
 | .cons v c,k=>conv FU t v λx=>convS t c λl=>k (x :: l)
 | _,_=>.fail
def ZCc:(ts:List T)→ZC ts→V
 | [],_=>.nl
 | [t],x=>.cons (.data t x) .nl
 | t :: u :: r,x=>.cons (.data t x.1) (ZCc (u :: r) x.2)
def ZLc:V→V
 | .cons v .nl=>v
 | c=>.tup c
def appM (o:Oper) (nid:Nat) (q:EI) (p:Option Nat) (v':V):Ev Unit:=match v' with
 | .own u2=>.rdL u2 λ_ L2=>match L2 with
  | .mat ty' ty2' s' m' _=>match p with
   | none=>match Nat.beq q.e ty',Nat.beq q.sz 1 with
    | true,true=>.bind (ZT q.by_ ([]++m')) λ_=>.del u2 (.new nid (.mat ty' ty2' s' ([]++m') nid) (ret o (.own nid)))
    | _,_=>.fail
   | some u=>match Nat.beq u u2 with
    | true=>.fail
    | false=>.rdL u λ_ L=>match L with
     | .mat ty ty2 s m _=>match ZZb s' s m',Nat.beq ty ty',Nat.beq ty2 ty2',Nat.beq q.e ty,Nat.beq q.sz 1 with
      | some m2,true,true,true,true=>.bind (ZT q.by_ (m++m2)) λ_=>.del u2 (.del u (.new nid (.mat ty ty2 s (m++m2) nid) (ret o (.own nid))))
      | _,_,_,_,_=>.fail
     | _=>.fail
  | _=>.fail
 | _=>.fail
def ZLj (o:Oper) (nid:Nat) (q:EI) (p:Option Nat) (v':V):Ev Unit:=match v' with
 | .own u2=>.rdL u2 λ_ L2=>match L2 with
  | .lst ty' s' [] c2=>match p with
   | none=>match Nat.beq q.e ty',Nat.beq q.sz s'.n with
    | true,true=>.bind (ZT q.by_ ([()]:List Unit)) λ_=>.del u2 (.new nid (.lst ty' s' [] c2) (ret o (.own nid)))
    | _,_=>.fail
   | some u=>match Nat.beq u u2 with
    | true=>.fail
    | false=>.rdL u λ_ L=>match L with
     | .lst _ s _ c=>conv FU s c λx=>.rdL u λ_ L=>match L with
      | .lst ty3 s3 l3 c3=>.rdL u2 λ_ L2=>match L2 with
       | .lst ty4 s4 [] c4=>match T.cast s s3 x,T.beq s4 s3,Nat.beq ty3 ty4,Nat.beq q.e ty3,Nat.beq q.sz s3.n with
        | some x',true,true,true,true=>.bind (ZT q.by_ (l3++[x',x'])) λ_=>.del u (.del u2 (.new nid (.lst ty3 s3 (l3++[x']) c4) (ret o (.own nid))))
        | _,_,_,_,_=>.fail
       | _=>.fail
      | _=>.fail
     | _=>.fail
  | _=>.fail
 | _=>.fail
def onL (C:Cf) (o:Oper):Bool:=match o.dst with
 | some d=>Zja C.mats (d+600000)
 | none=>false
def appE (C:Cf) (o:Oper) (nid:Nat) (t:TypeId) (v v':V):Ev Unit:=match ZFf C.P t with
  | none=>.fail
  | some q=>match v with
    | .own u=>.rdL u λ_ L=>match L with
      | .own _ s _ _=>conv FU (.slice s) v' λy=>.rdL u λ_ L=>match L with
        | .own ty s' l false=>match Zkc s s' y,Nat.beq q.e ty,Nat.beq q.sz s'.n with
          | some y',true,true=>.bind (ZT q.by_ (l++y')) λ_=>.del u (.new nid (.own ty s' (l++y') false) (ret o (.own nid)))
          | _,_,_=>.fail
        | _=>.fail
      | .mat _ _ _ _ _=>appM o nid q (some u) v'
      | .lst _ _ _ _=>ZLj o nid q (some u) v'
      | _=>.fail
    | .row u i hv cv s r=>conv FU (.slice s) v' λ(y:List s.den)=>.rdL u λcv' L=>match L with
      | .mat ty ty2 s' m hv'=>match Nat.beq hv' hv,Nat.beq cv' cv,Zkc s s' (r++y),Nat.beq q.e ty2,Nat.beq q.sz s'.n with
        | true,true,some z,true,true=>.bind (ZT q.by_ z) λ_=>.wrL u (.mid ty ty2 s' m hv' (.hol i)) (.new nid (.own ty2 s' z false) (ret o (.own nid)))
        | _,_,_,_,_=>.fail
      | _=>.fail
    | .nilS=>match onM C o,onL C o with
     | true,_=>appM o nid q none v'
     | false,true=>ZLj o nid q none v'
     | false,false=>match ZTc C FU q.e with
      | some s=>match Nat.beq q.sz s.n with
        | true=>conv FU (.slice s) v' λ(y:List s.den)=>.bind (ZT q.by_ ([]++y)) λ_=>.new nid (.own q.e s ([]++y) false) (ret o (.own nid))
        | false=>.fail
      | none=>.fail
    | _=>.fail
def putF (P:Program) (s:TypeId):V→List (Nat×V)→Option V
 | z,[]=>some z
 | z,p :: r=>match fldT P s p.1 with
  | some h=>match szA P h.type with
   | some q=>match Nat.beq p.2.size q.1,p.2.fit,Z2a FU z h.offset p.2 with
    | true,true,some z'=>putF P s z' r
    | _,_,_=>none
   | none=>none
  | none=>none
def putA (n sz:Nat):V→List (Nat×V)→Option V
 | z,[]=>some z
 | z,p :: r=>match Nat.blt p.1 n,Nat.beq p.2.size sz,p.2.fit,Z2a FU z (p.1*sz) p.2 with
  | true,true,true,some z'=>putA n sz z' r
  | _,_,_,_=>none
def Zqj (P:Program):List Field→Bool
 | []=>true
 | h :: r=>match P.info? h.type with
  | some _=>Zqj P r
  | none=>false
def zipV:List (Nat×Operand)→V→List (Nat×V)
 | p :: r,.cons v c=>(p.1,v) :: zipV r c
 | _,_=>[]
def Zdf:V→V
 | .data t x=>match Zue t x with
  | some c=>.agg c
  | none=>.data t x
 | v=>v
def Zyj:Nat→List (Nat×Operand)→Bool
 | _,[]=>true
 | k,p :: r=>match Nat.beq p.1 k with
  | true=>Zyj (k+1) r
  | false=>false
def ZZf:Option Int→Int→Int
 | some h,_=>h
 | none,n=>n
def cutE (P:Program) (o:Oper) (t:TypeId) (v:V) (lo hi:Option Int):Ev Unit:=match v with
 | .data (.slice s) l=>match ZMh P t with
  | some q=>match Nat.beq q.2 s.n with
   | true=>.bind (ZI l (ZZf lo 0) (ZZf hi (l.length:Int))) λy=>ret o (.data (.slice s) y)
   | false=>.fail
  | none=>.fail
 | .data .str (l:List UInt8)=>match P.underlying t with
  | some .string=>.bind (ZI l (ZZf lo 0) (ZZf hi (l.length:Int))) λy=>ret o (.data .str y)
  | _=>.fail
 | _=>.fail
def optI {ρ:Type} (x:Option Operand) (k:Option Int→Ev ρ):Ev ρ:=match x with
 | none=>k none
 | some x=>opd x λv=>Z3a v λ_ i=>k (some i)
def insE (nid:Nat) (o:Oper) (c:ConI):V→Ev Unit
 | .cons a (.cons (.data (.int .i64) (i:Int)) (.cons (.own u2) .nl))=>.rdL u2 λ_ L2=>match L2 with
  | .own ty2 s2 l2 false=>match Nat.beq ty2 c.ty,Zkc s2 c.t l2 with
   | true,some [x]=>.del u2 (match a with
    | .own u=>.rdL u λ_ L=>match L with
     | .own ty s l false=>match Nat.beq ty c.ty,Zkc s c.t l with
      | true,some l'=>.bind (c.F l' i x) λz=>.del u (.new nid (.own c.ty c.t z false) (ret o (.own nid)))
      | _,_=>.fail
     | _=>.fail
    | .nilS=>.bind (c.F [] i x) λz=>.new nid (.own c.ty c.t z false) (ret o (.own nid))
    | _=>.fail)
   | _,_=>.fail
  | _=>.fail
 | _=>.fail
def arrE (C:Cf) (o:Oper) (t:TypeId) (s u off:Nat) (lo hi:Option Int):Ev Unit:=match Nat.beq off 0,lo,hi,C.P.underlying t with
 | true,none,none,some (.array n e)=>match ZTc C FU e,szA C.P e,Nat.blt 0 n,Nat.ble n 1000 with
  | some a,some q,true,true=>match Nat.beq q.1 a.n with
   | true=>.rdL u λ_ L=>match L with
    | .box _ c=>conv FU (Zpa a n) c λx=>.rdL u λ_ L2=>match L2 with
     | .box _ _=>.del u (.wrS s (.vp (Zpa a n) x 0) (ret o (.data (.slice a) (Z7a a n x))))
     | _=>.fail
    | _=>.fail
   | false=>.fail
  | _,_,_,_=>.fail
 | _,_,_,_=>.fail
def nilE {ρ:Type} (P:Program) (op:BinOp) (t:TypeId) (v:V) (k:V→Ev ρ):Ev ρ:=match op,P.underlying t with
 | .eql,some (.pointer _)=>match v with
  | .data (.ptr _) _=>k (.data .bool false)
  | v=>live v (k (.data .bool false))
 | _,_=>.fail
def ZPi:Operand→Bool
 | .const (.pointer none)=>true
 | _=>false
def delE (nid:Nat) (o:Oper) (c:ConD):V→Ev Unit
 | .cons (.own u) (.cons (.data (.int .i64) (i:Int)) (.cons (.data (.int .i64) (j:Int)) .nl))=>.rdL u λ_ L=>match L with
  | .own ty s l false=>match Nat.beq ty c.ty,Zkc s c.t l with
   | true,some l'=>.bind (c.F l' i j) λz=>.del u (.new nid (.own c.ty c.t z false) (ret o (.own nid)))
   | _,_=>.fail
  | _=>.fail
 | _=>.fail
def ZVj (C:Cf) (nid:Nat) (o:Oper) (f:FuncId) (args:V):Ev Unit:=match ZV C.cons f with
 | some c=>ZOc c.args args λp=>.bind (c.F p) λz=>ret o (ZLc (ZCc c.res z))
 | none=>match ZV C.owns f with
  | some c=>ZOc c.args args λp=>.bind (c.F p) λz=>.new nid (.own c.ty c.t z false) (ret o (.own nid))
  | none=>match ZV C.ins f with
   | some c=>insE nid o c args
   | none=>match ZV C.omats f with
    | some c=>ZOc c.args args λp=>.bind (c.F p) λz=>.new nid (.mat c.ty c.ty2 c.t z nid) (ret o (.own nid))
    | none=>match ZV C.dels f with
     | some c=>delE nid o c args
     | none=>match ZV C.pows f with
      | some c=>ZOc c.args args λp=>.bind (c.F p) λz=>.new nid (.own c.ty c.t z.1 false) (ret o (.tup (.cons (.own nid) (ZCc c.res z.2))))
      | none=>.fail
def ZYg (s:List UInt8) (p:Nat):Option Int:=match s[p]? with
 | some c=>match Nat.blt c.toNat 128,Nat.ble s.length maxLen with
  | true,true=>some (c.toNat:Int)
  | _,_=>none
 | none=>none
def ZM (C:Cf) (nid:Nat) (o:Oper):Ev Unit:=match o.op with
  | .move x=>opd x (ret o)
  | .assign x=>match ZPi x with
    | true=>.new nid (.box 0 .undef) (.del nid (ret o (.ptr nid 0)))
    | false=>opd x (ret o)
  | .nilCheck x=>opd x λv=>match v with
    | .data (.ptr a) y=>ret o (.vp a y 0)
    | v=>live v (ret o v)
  | .pick (.tmp c) a b=>.test c (opd a (ret o)) (opd b (ret o))
  | .extract x i=>opd x λv=>match v with
    | .tup c=>match nthV c i with
      | some z=>ret o z
      | none=>.fail
    | _=>.fail
  | .lookup t x k q=>opd x λv=>opd k λw=>match v,w,C.P.underlying t with
    | .data (.leaf 5) (m:Option MPd),.data .str (s:List UInt8),some (.map kt et)=>match C.P.underlying kt,C.P.underlying et,q with
      | some .string,some (.int .i64),true=>match Zrh C.P et with
        | some z=>ret o (.tup (.cons (.data (.int .i64) ((Zya m s).getD z)) (.cons (.data .bool (Zya m s).isSome) .nl)))
        | none=>.fail
      | some .string,some (.int .i64),false=>match Zrh C.P et with
        | some z=>ret o (.data (.int .i64) ((Zya m s).getD z))
        | none=>.fail
      | _,_,_=>.fail
    | .own u,.data .str (s:List UInt8),some (.map kt et)=>match C.P.underlying kt,C.P.underlying et,Zrh C.P et with
      | some .string,some (.int .i64),some z=>.rdL u λ_ L=>match L with
        | .mp m=>match q with
          | true=>ret o (.tup (.cons (.data (.int .i64) ((Zya m s).getD z)) (.cons (.data .bool (Zya m s).isSome) .nl)))
          | false=>ret o (.data (.int .i64) ((Zya m s).getD z))
        | _=>.fail
      | _,_,_=>.fail
    | _,_,_=>.fail
  | .makeMap _ none=>.new nid (.mp (some [])) (ret o (.own nid))
  | .range t x=>opd x λv=>match v,C.P.underlying t with
    | .data .str (s:List UInt8),some .string=>.new nid (.it s 0) (ret o (.ptr nid 0))
    | _,_=>.fail
  | .next x true=>opd x λv=>match v with
    | .ptr u 0=>.rdL u λ_ L=>match L with
      | .it s p=>.alt (decide (p<s.length)) (.bind (ZYg s p) λc=>.wrL u (.it s (p+1)) (ret o (.tup (.cons (.data .bool true) (.cons (.data (.int .i64) (p:Int)) (.cons (.data (.int .i32) c) .nl)))))) (ret o (.tup (.cons (.data .bool false) .nl)))
      | _=>.fail
    | _=>.fail
  | .mapUpdate t x k y=>match o.dst with
    | none=>opd x λv=>opd k λw=>opd y λz=>match v,w,z,C.P.underlying t with
      | .own u,.data .str (s:List UInt8),.data (.int .i64) (i:Int),some (.map kt _)=>match C.P.underlying kt with
        | some .string=>.rdL u λ_ L=>match L with
          | .mp m=>.bind (mpPut m s i) λm'=>.wrL u (.mp m') (.done ())
          | _=>.fail
        | _=>.fail
      | _,_,_,_=>.fail
    | some _=>.fail
  | .alloc t=>match ZFk C t with
    | some z=>.new nid (.box t z) (ret o (.ptr nid 0))
    | none=>.fail
  | .box t x=>opd x λv=>match v.fit with
    | true=>.new nid (.box t v) (ret o (.ptr nid 0))
    | false=>.fail
  | .load t x=>opd x λp=>match onT C o with
    | true=>takeE C.P o nid t p
    | false=>ldE C.P t p (ret o)
  | .store t x y=>match o.dst with
    | none=>opd x λp=>opd y λv=>stE C.P nid t p v
    | some _=>.fail
  | .fieldAddr s x f=>opd x λv=>fldE C.P s f v (ret o)
  | .field s x f=>opd x λv=>match fldT C.P s f,v.isAgg with
    | some h,true=>match szA C.P h.type with
      | some q=>match Zga FU v h.offset q.1 q.2 with
        | some z=>ret o z
        | none=>.fail
      | none=>.fail
    | _,_=>.fail
  | .indexAddr t x i=>opd x λv=>opd i λw=>Z3a w λ_ j=>match onA C o,onQ C o with
    | true,_=>altE C.P o t v j
    | false,true=>ixQ C o t v j
    | false,false=>ixE C.P o t v j
  | .index t x i=>opd x λv=>opd i λw=>Z3a w λ_ j=>match v with
    | .data .str (l:List UInt8)=>match C.P.underlying t with
      | some .string=>.bind (idx l j) λ(y:UInt8)=>ret o (.data (.int .u8) ((y.toNat:Nat):Int))
      | _=>.fail
    | v=>match onA C o,onQ C o with
      | true,_=>altvE C o t v j
      | false,true=>ixW C o t v j
      | false,false=>ixV C o t v j
  | .binOp op t x y _=>match ZPi y with
    | true=>opd x λv=>nilE C.P op t v (ret o)
    | false=>opd x λv=>opd y λw=>binE C.P op t v w (ret o)
  | .unOp .not _ x=>opd x λv=>Z4k v λb=>ret o (.data .bool (!b))
  | .unOp .neg _ x=>opd x λv=>Z3a v λκ i=>ret o (.data (.int κ) (κ.wrap (-i)))
  | .convert s d x=>opd x λv=>match v,C.P.underlying s,C.P.underlying d with
    | .data (.int κ) i,some _,some (.int κ')=>match kEq κ κ' with
      | true=>ret o (.data (.int κ) i)
      | false=>ret o (.data (.int κ') (κ'.wrap i))
    | .data .str (l:List UInt8),some .string,some .string=>ret o (.data .str l)
    | .data .str (l:List UInt8),some .string,some (.slice e)=>match C.P.underlying e with
      | some (.int .u8)=>ret o (.data (.slice (.int .u8)) (ZTa l))
      | _=>.fail
    | _,_,_=>.fail
  | .makeFunc (.func f) first cap=>match first.toList with
    | []=>Z0d cap.toList λc=>ret o (.fn f c)
    | _=>.fail
  | .makeInterface t x=>opd x λv=>match v.fit with
    | true=>match C.P.underlying t with
      | some (.interface _)=>.fail
      | some _=>ret o (.ifc t v)
      | none=>.fail
    | false=>.fail
  | .makeSlice t l c=>opd l λv=>opd c λw=>Z3a v λ_ i=>Z3a w λ_ j=>match ZFf C.P t,o.dst with
    | some q,some d=>.bind (mk q.by_ i j) λ_=>match Zja C.mats d with
      | true=>match ZFf C.P q.e,zSl q.z.cells.toList,Nat.beq q.sz 1 with
        | some q2,some _,true=>match ZTc C FU q2.e with
          | some s=>match Nat.beq q2.sz s.n with
            | true=>.new nid (.mat q.e q2.e s (List.replicate i.toNat []) nid) (ret o (.own nid))
            | false=>.fail
          | none=>.fail
        | _,_,_=>.fail
      | false=>match ZTc C FU q.e with
        | some s=>match Zrf s,zOK s q.z.cells.toList,Nat.beq q.sz s.n with
          | some z,some _,true=>.new nid (.own q.e s (List.replicate i.toNat z) false) (ret o (.own nid))
          | _,_,_=>.fail
        | none=>.fail
    | _,_=>.fail
  | .buildSlice t n ps=>match ZFf C.P t with
    | some q=>match onM C o,onL C o with
     | false,true=>match n,ps.toList with
      | 1,[(0,x)]=>opd x λv=>match ZTc C FU q.e with
        | some s=>match Nat.beq q.sz s.n,Nat.beq v.size s.n,v.fit,Nat.ble q.sz 1000 with
          | true,true,true,true=>.new nid (.lst q.e s [] v) (ret o (.own nid))
          | _,_,_,_=>.fail
        | none=>.fail
      | _,_=>.fail
     | true,_=>match n,ps.toList with
      | 1,[(0,x)]=>opd x λv=>match v,ZFf C.P q.e,zSl q.z.cells.toList with
        | .own u2,some q2,some _=>.rdL u2 λ_ L=>match L with
          | .own ty2 s l false=>match Nat.beq q2.e ty2,Nat.beq q2.sz s.n,Nat.beq q.sz 1 with
            | true,true,true=>.del u2 (.new nid (.mat q.e ty2 s [l] nid) (ret o (.own nid)))
            | _,_,_=>.fail
          | _=>.fail
        | _,_,_=>.fail
      | _,_=>.fail
     | false,false=>match ZTc C FU q.e,Zyj 0 ps.toList,Nat.beq ps.toList.length n,Nat.ble (n*q.sz) 16777216 with
      | some s,true,true,true=>match Nat.beq q.sz s.n with
        | true=>Z0d (ps.toList.map (·.2)) λc=>convS s c λl=>.new nid (.own q.e s l false) (ret o (.own nid))
        | false=>.fail
      | _,_,_,_=>.fail
    | none=>.fail
  | .build t ps=>match ZFk C t,C.P.underlying t with
    | some z,some (.struct fs)=>match Zqj C.P fs.toList,(Zdf z).isAgg,z.isAgg with
      | true,true,true=>match ps.toList with
        | []=>ret o z
        | l=>Z0d (l.map (·.2)) λc=>match putF C.P t (Zdf z) (zipV l c) with
          | some z'=>ret o z'
          | none=>.fail
      | _,_,_=>.fail
    | some z,some (.array n e)=>match C.P.info? e,(Zdf z).isAgg,z.isAgg with
      | some i,true,true=>Z0d (ps.toList.map (·.2)) λc=>match putA n i.size (Zdf z) (zipV ps.toList c) with
        | some z'=>ret o z'
        | none=>.fail
      | _,_,_=>.fail
    | _,_=>.fail
  | .slice t x lo hi none=>optI lo λi=>optI hi λj=>opd x λv=>match v with
    | .own u=>.rdL u λ_ L=>match L with
      | .own _ s _ _=>conv FU (.slice s) v λl=>cutE C.P o t (.data (.slice s) l) i j
      | _=>.fail
    | .data (.leaf 0) (n:Nat)=>cutE C.P o t (.data (.slice (.int .u64)) (Zc 18446744073709551616 n)) i j
    | .data (.leaf 1) (n:Nat)=>cutE C.P o t (.data (.slice (.int .u32)) (Zc 4294967296 n)) i j
    | .ptr u off=>match x with
      | .tmp s=>arrE C o t s u off i j
      | _=>.fail
    | v=>cutE C.P o t v i j
  | .call c=>match c.callee with
    | .builtin .len=>match c.args.toList,c.argTypes.toList with
      | [x],[t]=>opd x λv=>lenE C.P t v λn=>ret o (.data (.int .i64) (n:Int))
      | _,_=>.fail
    | .builtin .append=>match c.args.toList,c.argTypes.toList with
      | [x,y],[t,t']=>match Nat.beq t t' with
        | true=>opd x λv=>opd y λw=>appE C o nid t v w
        | false=>.fail
      | _,_=>.fail
    | .builtin .max=>match c.args.toList with
      | [x,y]=>opd x λv=>opd y λw=>Z3a v λκ i=>Z3a w λκ' j=>match kEq κ κ' with
        | true=>ret o (.data (.int κ) (max i j:Int))
        | false=>.fail
      | [x,y,z]=>opd x λv=>opd y λw=>opd z λu=>Z3a v λκ i=>Z3a w λκ' j=>Z3a u λκ'' k=>match kEq κ κ',kEq κ κ'' with
        | true,true=>ret o (.data (.int κ) (max (max i j) k:Int))
        | _,_=>.fail
      | [x1,x2,x3,x4,x5,x6]=>opd x1 λv1=>opd x2 λv2=>opd x3 λv3=>opd x4 λv4=>opd x5 λv5=>opd x6 λv6=>Z3a v1 λκ i1=>Z3a v2 λκ2 i2=>Z3a v3 λκ3 i3=>Z3a v4 λκ4 i4=>Z3a v5 λκ5 i5=>Z3a v6 λκ6 i6=>match kEq κ κ2,kEq κ κ3,kEq κ κ4,kEq κ κ5,kEq κ κ6 with
        | true,true,true,true,true=>ret o (.data (.int κ) (max (max (max (max (max i1 i2) i3) i4) i5) i6:Int))
        | _,_,_,_,_=>.fail
      | _=>.fail
    | .builtin .min=>match c.args.toList with
      | [x,y]=>opd x λv=>opd y λw=>Z3a v λκ i=>Z3a w λκ' j=>match kEq κ κ' with
        | true=>ret o (.data (.int κ) (min i j:Int))
        | false=>.fail
      | _=>.fail
    | .value x=>opd x λfv=>Z0d c.args.toList λags=>match fv with
      | .fn f .nl=>ZVj C nid o f ags
      | _=>.fail
    | .invoke x m=>opd x λr=>Z0d c.args.toList λags=>match r with
      | .ifc t v=>match lkM C.meths t m with
        | some f=>ZVj C nid o f (.cons v ags)
        | none=>.fail
      | _=>.fail
    | _=>.fail
  | _=>.fail
def Zmg (o:Oper):Ev Unit:=match o.dst with
 | some d=>.wrS d .undef (.done ())
 | none=>.done ()
def gop (C:Cf) (ops:List Oper) (nid:Nat) (o:Oper):Ev Unit:=match o.guard with
 | none=>ZM C nid o
 | some (j,w)=>match ops[j]? with
  | some q=>match q.dst with
   | some t=>.rdS t λx=>match x with
    | .undef=>Zmg o
    | .data .bool _=>match w with
     | true=>.test t (ZM C nid o) (Zmg o)
     | false=>.test t (Zmg o) (ZM C nid o)
    | _=>.fail
   | none=>.fail
  | none=>.fail
structure Fp where
 rs:Nat
 ws:Nat
 rl:Nat
 wl:Nat
def Fp.no:Fp:=⟨0,0,0,0⟩
def bit (m k:Nat):Nat:=Nat.lor m (Nat.pow 2 k)
def ZJb {ρ α:Type} (n:Nat):Ev ρ→Fr→Lo→Fp→(ρ→Fr→Lo→Fp→Option α)→Option α
 | .fail,_,_,_,_=>none
 | .done r,f,l,p,K=>K r f l p
 | .rdS t k,f,l,p,K=>match lkE f t with
  | some x=>ZJb n (k x.x) f l ⟨bit p.rs t,p.ws,p.rl,p.wl⟩ K
  | none=>none
 | .rdL u k,f,l,p,K=>match lkE l u with
  | some x=>ZJb n (k x.st x.x) f l ⟨p.rs,p.ws,bit p.rl u,p.wl⟩ K
  | none=>none
 | .wrS t x e,f,l,p,K=>ZJb n e (⟨t,n,x⟩ :: f) l ⟨p.rs,bit p.ws t,p.rl,p.wl⟩ K
 | .wrL u L e,f,l,p,K=>ZJb n e f (⟨u,n,L⟩ :: era l u) ⟨p.rs,p.ws,p.rl,bit p.wl u⟩ K
 | .new u L e,f,l,p,K=>match lkE l u with
  | none=>ZJb n e f (⟨u,n,L⟩ :: l) ⟨p.rs,p.ws,bit p.rl u,bit p.wl u⟩ K
  | some _=>none
 | .del u e,f,l,p,K=>ZJb n e f (era l u) ⟨p.rs,p.ws,p.rl,bit p.wl u⟩ K
 | .bind x k,f,l,p,K=>bnd x λy=>ZJb n (k y) f l p K
 | .test t e1 e2,f,l,p,K=>match lkE f t with
  | some ⟨_,s,.data .bool b⟩=>ifb b (ZJb n e1 (⟨t,s,.data .bool true⟩ :: f) l ⟨bit p.rs t,p.ws,p.rl,p.wl⟩ K) (ZJb n e2 (⟨t,s,.data .bool false⟩ :: f) l ⟨bit p.rs t,p.ws,p.rl,p.wl⟩ K)
  | _=>none
 | .alt b e1 e2,f,l,p,K=>ifb b (ZJb n e1 f l p K) (ZJb n e2 f l p K)
def Fp.free (p q:Fp):Bool:=Nat.beq (Nat.lor (Nat.lor (Nat.land p.ws (Nat.lor q.rs q.ws)) (Nat.land p.rs q.ws)) (Nat.lor (Nat.land p.wl (Nat.lor q.rl q.wl)) (Nat.land p.rl q.wl))) 0
def ZFc (done:List Nat):List Edge→Nat→Nat
 | [],m=>m
 | e :: r,m=>match Region.binds .any e with
  | true=>ZFc done r (Nat.lor (bit m e.on) (done.getD e.on 0))
  | false=>ZFc done r m
def Z5a:List Oper→List Nat→List Nat
 | [],done=>done
 | o :: r,done=>Z5a r (done++[ZFc done o.after.toList 0])
def chk1 (m:Nat) (q:Fp):List Fp→Nat→Bool
 | [],_=>true
 | p :: r,i=>match Nat.testBit m i with
  | true=>chk1 m q r (i+1)
  | false=>match p.free q with
   | true=>chk1 m q r (i+1)
   | false=>false
def Zme:List Fp→List Nat→List Fp→Bool
 | _,_,[]=>true
 | bef,m :: ms,q :: qs=>match chk1 m q bef 0 with
  | true=>Zme (bef++[q]) ms qs
  | false=>false
 | _,[],_ :: _=>false
def Z2h (i:Nat):List Edge→Bool
 | []=>true
 | e :: r=>match Region.binds .any e with
  | true=>match Nat.blt e.on i with
   | true=>Z2h i r
   | false=>false
  | false=>Z2h i r
def Zoe:Nat→List Oper→Bool
 | _,[]=>true
 | i,o :: r=>match Z2h i o.after.toList with
  | true=>Zoe (i+1) r
  | false=>false
inductive Pl where
 | sl (s:Nat)
 | fld (p:Pl) (off:Nat)
inductive Vr where
 | s (t:Nat) (c:CT)
 | l (p:Pl) (c:CT)
def Vr.ct:Vr→CT
 | .s _ c=>c
 | .l _ c=>c
def ctL:List CT→CT
 | []=>.nl
 | [v]=>.one v
 | v :: w :: r=>.cons v (ctL (w :: r))
inductive Kd where
 | norm | exit (id:Nat) | ret
structure Js where
 keep:List Nat
 drop:List Pl
 vs:List Vr
structure Jn where
 head:Js
 outs:List (Kd×Js)
inductive Ann where
 | no
 | two (a b:Ann)
 | cut (c:Jn) (a:Ann)
 | unroll (k:Nat) (a:Ann)
 | sel (i:Nat) (a b:Ann)
 | lend (us:List Nat) (bs:List (Nat×T)) (nb fl keep:List Nat) (a:Ann)
structure Kt (α:Type) where
 norm:Fr→Lo→Nat→Option α
 exit:Nat→Fr→Lo→Nat→Option α
 ret:V→Lo→Nat→Option α
def Ann.fst:Ann→Ann
 | .two a _=>a
 | _=>.no
def Ann.snd:Ann→Ann
 | .two _ b=>b
 | _=>.no
def idV:V→Option Nat
 | .own u=>some u
 | .ptr u 0=>some u
 | _=>none
def Zdc (f:Fr) (l:Lo):Pl→Option Nat
 | .sl s=>match lkE f s with
  | some v=>idV v.x
  | none=>none
 | .fld p off=>match Zdc f l p with
  | some u=>match lkE l u with
   | some ⟨_,_,.box _ c⟩=>match Zga FU c off 1 false with
    | some v=>idV v
    | none=>none
   | _=>none
  | none=>none
def idsOf (f:Fr) (l:Lo):List Pl→Option (List Nat)
 | []=>some []
 | p :: r=>match Zdc f l p,idsOf f l r with
  | some u,some us=>some (u :: us)
  | _,_=>none
def Z0 {ρ:Type}:Nat→(c:CT)→V→(c.den→Ev ρ)→Ev ρ
 | 0,_,_,_=>.fail
 | g+1,c,v,K=>match c,K with
  | .dat t,K=>conv FU t v K
  | .own ty t,K=>match v with
   | .own u=>.rdL u λ_ L=>match L with
    | .own ty' t' xs false=>match Nat.beq ty ty',Zkc t' t xs with
     | true,some ys=>.del u (K ys)
     | _,_=>.fail
    | _=>.fail
   | .nilS=>K []
   | _=>.fail
  | .mat ty ty2 t,K=>match v with
   | .own u=>.rdL u λ_ L=>match L with
    | .mat ty' ty2' t' m _=>match Nat.beq ty ty',Nat.beq ty2 ty2',T.cast (.slice (.slice t')) (.slice (.slice t)) m with
     | true,true,some m'=>.del u (K m')
     | _,_,_=>.fail
    | _=>.fail
   | .nilS=>K []
   | _=>.fail
  | .nl,K=>match v with
   | .nl=>K ()
   | _=>.fail
  | .one a,K=>match v with
   | .cons x .nl=>Z0 g a x K
   | _=>.fail
  | .cons a b,K=>match v with
   | .cons x y=>Z0 g a x λp=>Z0 g b y λq=>K (p,q)
   | _=>.fail
  | .agg c,K=>match v with
   | .agg x=>Z0 g c x K
   | _=>.fail
  | .box ty c,K=>match v with
   | .ptr u 0=>.rdL u λ_ L=>match L with
    | .box ty' x=>match Nat.beq ty ty' with
     | true=>.del u (Z0 g c x K)
     | false=>.fail
    | _=>.fail
   | _=>.fail
  | .mp,K=>match v with
   | .own u=>.rdL u λ_ L=>match L with
    | .mp m=>.del u (K m)
    | _=>.fail
   | .data (.leaf 5) (m:Option MPd)=>match m with
    | none=>K (none:Option MPd)
    | some _=>.fail
   | _=>.fail
  | .it,K=>.fail
  | .lst ty tyD tyG e,K=>match v with
   | .nilS=>K (none:Option (List (List UInt8×List (List UInt8)×List e.den)×(List UInt8×List (List UInt8)×List e.den)))
   | .own u=>.rdL u λ_ L=>match L with
    | .lst ty' t' xs c=>match Nat.beq ty ty',Zkc t' (stepT e) xs with
     | true,some ys=>.del u (Z0 g (.agg (.cons (.dat .str) (.cons (.own tyD .str) (.one (.own tyG e))))) c λ(x:List UInt8×List (List UInt8)×List e.den)=>K (some (ys,x):Option (List (List UInt8×List (List UInt8)×List e.den)×(List UInt8×List (List UInt8)×List e.den))))
     | _,_=>.fail
    | _=>.fail
   | _=>.fail
def Zl:(c:CT)→c.den→Nat→V×Lo×Nat
 | .dat t,x,n=>(.data t x,[],n)
 | .own ty t,x,n=>(.own n,[⟨n,n,.own ty t x false⟩],n+1)
 | .mat ty ty2 t,x,n=>(.own n,[⟨n,n,.mat ty ty2 t x n⟩],n+1)
 | .nl,_,n=>(.nl,[],n)
 | .one a,x,n=>match Zl a x n with
  | (v,l,m)=>(.cons v .nl,l,m)
 | .cons a b,x,n=>match Zl a x.1 n with
  | (v,l,m)=>match Zl b x.2 m with
   | (v',l',m')=>(.cons v v',l++l',m')
 | .agg c,x,n=>match Zl c x n with
  | (v,l,m)=>(.agg v,l,m)
 | .box ty c,x,n=>match Zl c x (n+1) with
  | (v,l,m)=>(.ptr n 0,⟨n,n,.box ty v⟩ :: l,m)
 | .mp,x,n=>(.own n,[⟨n,n,.mp x⟩],n+1)
 | .it,x,n=>(.ptr n 0,[⟨n,n,.it x.1 x.2⟩],n+1)
 | .lst ty tyD tyG e,(x:Option (List (List UInt8×List (List UInt8)×List e.den)×(List UInt8×List (List UInt8)×List e.den))),n=>match x with
  | none=>(.nilS,[],n)
  | some y=>(.own n,[⟨n,n,.lst ty (stepT e) y.1 (.agg (.cons (.data .str y.2.1) (.cons (.own (n+1)) (.cons (.own (n+2)) .nl))))⟩,⟨n+1,n+1,.own tyD .str y.2.2.1 false⟩,⟨n+2,n+2,.own tyG e y.2.2.2 false⟩],n+3)
def ZWa (l:Lo) (u:Nat):Nat:=match lkE l u with
 | some ⟨_,_,.mat _ _ _ _ hv⟩=>hv
 | _=>0
def Zjc {ρ:Type} (h:Nat) (c:CT) (u:Nat) (K:c.den→Ev ρ):Ev ρ:=match c,K with
 | .agg (.mat ty ty2 t),K=>.rdL u λ_ L=>match L with
  | .mat ty' ty2' t' m hv=>match Nat.beq ty ty',Nat.beq ty2 ty2',T.cast (.slice (.slice t')) (.slice (.slice t)) m,Nat.beq hv h with
   | true,true,some m',true=>.del u (K m')
   | _,_,_,_=>.fail
  | _=>.fail
 | .own ty t,K=>.rdL u λ_ L=>match L with
  | .own ty' t' xs false=>match Nat.beq ty ty',Zkc t' t xs with
   | true,some ys=>.del u (K ys)
   | _,_=>.fail
  | _=>.fail
 | .mat ty ty2 t,K=>.rdL u λ_ L=>match L with
  | .mat ty' ty2' t' m _=>match Nat.beq ty ty',Nat.beq ty2 ty2',T.cast (.slice (.slice t')) (.slice (.slice t)) m with
   | true,true,some m'=>.del u (K m')
   | _,_,_=>.fail
  | _=>.fail
 | .box ty c,K=>.rdL u λ_ L=>match L with
  | .box ty' x=>match Nat.beq ty ty' with
   | true=>.del u (Z0 FU c x K)
   | false=>.fail
  | _=>.fail
 | .it,K=>.rdL u λ_ L=>match L with
  | .it s p=>.del u (K (s,p))
  | _=>.fail
 | _,_=>.fail
def ZAe {ρ:Type} (f0:Fr) (l0:Lo):(vs:List Vr)→((ctL (vs.map Vr.ct)).den→Ev ρ)→Ev ρ
 | [],K=>K ()
 | [.s t c],K=>.rdS t λv=>Z0 FU c v K
 | [.l p c],K=>match Zdc f0 l0 p with
  | some u=>Zjc (ZWa l0 u) c u K
  | none=>.fail
 | .s t c :: w :: r,K=>.rdS t λv=>Z0 FU c v λx=>ZAe f0 l0 (w :: r) λy=>K (x,y)
 | .l p c :: w :: r,K=>match Zdc f0 l0 p with
  | some u=>Zjc (ZWa l0 u) c u λx=>ZAe f0 l0 (w :: r) λy=>K (x,y)
  | none=>.fail
def Zhb (f:Fr):List Nat→Fr
 | []=>[]
 | s :: r=>match lkE f s with
  | some e=>e :: Zhb f r
  | none=>Zhb f r
def Z1 (h:Nat) (c:CT) (x:c.den) (u n:Nat):Lo×Nat:=match c,x with
 | .agg (.mat ty ty2 t),x=>([⟨u,n,.mat ty ty2 t x h⟩],n+1)
 | .own ty t,x=>([⟨u,n,.own ty t x false⟩],n+1)
 | .mat ty ty2 t,x=>([⟨u,n,.mat ty ty2 t x n⟩],n+1)
 | .it,x=>([⟨u,n,.it x.1 x.2⟩],n+1)
 | .box ty c,x=>match Zl c x (n+1) with
  | (v,l,m)=>(⟨u,n,.box ty v⟩ :: l,m)
 | _,_=>([],n)
def ZOb (f0:Fr) (l0:Lo):(vs:List Vr)→(ctL (vs.map Vr.ct)).den→Nat→Fr×Lo×Nat
 | [],_,n=>([],[],n)
 | [.s t c],x,n=>match Zl c x (n+1) with
  | (v,l,m)=>([⟨t,n,v⟩],l,m)
 | [.l p c],x,n=>match Zdc f0 l0 p with
  | some u=>match Z1 (ZWa l0 u) c x u n with
   | (l,m)=>([],l,m)
  | none=>([],[],n)
 | .s t c :: w :: r,x,n=>match Zl c x.1 (n+1) with
  | (v,l,m)=>match ZOb f0 l0 (w :: r) x.2 m with
   | (f',l',m')=>(⟨t,n,v⟩ :: f',l++l',m')
 | .l p c :: w :: r,x,n=>match Zdc f0 l0 p with
  | some u=>match Z1 (ZWa l0 u) c x.1 u n with
   | (l,m)=>match ZOb f0 l0 (w :: r) x.2 m with
    | (f',l',m')=>(f',l++l',m')
  | none=>([],[],n)
def goneP (f0:Fr) (l0:Lo):List Pl→List Nat
 | p :: r=>match Zdc f0 l0 p with
  | some u=>u :: goneP f0 l0 r
  | none=>goneP f0 l0 r
 | []=>[]
def Zid (f0:Fr) (l0:Lo):List Vr→List Nat
 | .s t _ :: r=>match Zdc f0 l0 (.sl t) with
  | some u=>u :: Zid f0 l0 r
  | none=>Zid f0 l0 r
 | .l p _ :: r=>match Zdc f0 l0 p with
  | some u=>u :: Zid f0 l0 r
  | none=>Zid f0 l0 r
 | []=>[]
def gone (f0:Fr) (l0:Lo) (ps:List Pl) (vs:List Vr):List Nat:=goneP f0 l0 ps++Zid f0 l0 vs
def ZEe:V→List Nat→List Nat
 | .own u,r=>u :: r
 | .row u _ _ _ _ _,r=>u :: r
 | .ptr u _,r=>u :: r
 | .el u _ _ _ _ _,r=>u :: r
 | .rp u _ _ _ _ _,r=>u :: r
 | .rel u _ _ _ _ _ _ _ _,r=>u :: r
 | .cons a b,r=>ZEe a (ZEe b r)
 | .agg c,r=>ZEe c r
 | .tup c,r=>ZEe c r
 | .fn _ c,r=>ZEe c r
 | _,r=>r
def idsF:Fr→List Nat
 | []=>[]
 | e :: r=>ZEe e.x (idsF r)
def Zog (l:Lo):Nat→List Nat→List Nat→List Nat
 | 0,_,a=>a
 | _,[],a=>a
 | g+1,u :: r,a=>match Zja a u with
  | true=>Zog l g r a
  | false=>match lkE l u with
   | some ⟨_,_,.box _ c⟩=>Zog l g (ZEe c r) (u :: a)
   | some ⟨_,_,.lst _ _ _ c⟩=>Zog l g (ZEe c r) (u :: a)
   | _=>Zog l g r (u :: a)
def ZLd (b:Nat) (rs us:List Nat):Lo→Lo
 | []=>[]
 | e :: r=>match Zja us e.k with
  | true=>ZLd b rs us r
  | false=>match Nat.ble b e.k with
   | false=>e :: ZLd b rs us r
   | true=>match Zja rs e.k with
    | true=>e :: ZLd b rs us r
    | false=>ZLd b rs us r
def stayL (b:Nat) (f0:Fr) (l0:Lo) (j:Js) (vs:List Vr):Lo:=ZLd b (Zog l0 50 (idsF (Zhb f0 j.keep)) []) (gone f0 l0 j.drop vs) l0
def Zlh (n:Nat) (f:Fr):List Nat→Bool
 | []=>true
 | s :: r=>match lkE f s with
  | some e=>match Nat.ble n e.st with
   | true=>false
   | false=>Zlh n f r
  | none=>false
def Zbi (n:Nat) (l:Lo):Lo→Bool
 | []=>true
 | e :: r=>match lkE l e.k with
  | some e'=>match Nat.ble n e'.st with
   | true=>false
   | false=>Zbi n l r
  | none=>false
def build {α:Type} (b:Nat) (f0:Fr) (l0:Lo) (j:Js) (x:(ctL (j.vs.map Vr.ct)).den) (n:Nat) (K:Fr→Lo→Nat→α):α:=match ZOb f0 l0 j.vs x n with
 | (f',l',m)=>K (f'++Zhb f0 j.keep) (l'++stayL b f0 l0 j j.vs) m
def kdEq:Kd→Kd→Bool
 | .norm,.norm=>true
 | .ret,.ret=>true
 | .exit i,.exit j=>Nat.beq i j
 | _,_=>false
abbrev jT (j:Js):Type:=(ctL (j.vs.map Vr.ct)).den
def sumT:List (Kd×Js)→Type
 | []=>Empty
 | [o]=>jT o.2
 | o :: p :: r=>jT o.2 ⊕ sumT (p :: r)
def Zie {α:Type} (b n0 n:Nat) (f0:Fr) (l0:Lo) (f:Fr) (l:Lo) (j:Js) (K:jT j→Option α):Option α :=
 ZIa n (ZAe f0 l0 j.vs λx=>.done x) f l λx _ l'=>match Zlh n0 f j.keep,Zbi n0 l' (stayL b f0 l0 j j.vs) with
  | true,true=>K x
  | _,_=>none
def ZBc (n:Nat):Nat→V→Fr
 | k,.cons v c=>⟨k,n,v⟩ :: ZBc n (k+1) c
 | _,_=>[]
def lenV:V→Nat
 | .cons _ c=>lenV c+1
 | _=>0
def ordS:Nat→List Vr→Option Nat
 | k,[]=>some k
 | k,.s t _ :: r=>match Nat.beq t k with
  | true=>ordS (k+1) r
  | false=>none
 | k,.l _ _ :: r=>ordS k r
def Zmi {α:Type} (b n0 n:Nat) (f0:Fr) (l0:Lo) (c:V) (l:Lo) (j:Js) (K:jT j→Option α):Option α:=match j.keep,ordS 1000 j.vs with
 | [],some k=>match Nat.beq (1000+lenV c) k with
  | true=>Zie b n0 (n+1) f0 l0 (ZBc n 1000 c) l j K
  | false=>none
 | _,_=>none
def Zyk (f:Fr):Nat→Nat→Option V
 | 0,_=>some .nl
 | g+1,t=>match lkE f t,Zyk f g (t+1) with
  | some ⟨_,_,.tup _⟩,_=>none
  | some e,some c=>some (.cons e.x c)
  | _,_=>none
def ZHc {α:Type} (b n0 n:Nat) (f0:Fr) (l0:Lo) (kd:Kd) (c:V) (f:Fr) (l:Lo):(os:List (Kd×Js))→(sumT os→Option α)→Option α
 | [],_=>none
 | [o],K=>match kdEq o.1 kd with
  | true=>match kd with
   | .ret=>Zmi b n0 n f0 l0 c l o.2 K
   | _=>Zie b n0 n f0 l0 f l o.2 K
  | false=>none
 | o :: p :: r,K=>match kdEq o.1 kd with
  | true=>match kd with
   | .ret=>Zmi b n0 n f0 l0 c l o.2 λx=>K (.inl x)
   | _=>Zie b n0 n f0 l0 f l o.2 λx=>K (.inl x)
  | false=>ZHc b n0 n f0 l0 kd c f l (p :: r) λx=>K (.inr x)
def retK {α:Type} (vs:List Vr) (K:V→Lo→Nat→Option α) (f:Fr) (l:Lo) (m:Nat):Option α:=match ordS 1000 vs with
 | some k=>match Zyk f (k-1000) 1000 with
  | some c=>K c l m
  | none=>none
 | none=>none
def ZCg {α:Type} (b:Nat) (f0:Fr) (l0:Lo) (n:Nat) (K:Kt α) (o:Kd×Js) (x:jT o.2):Option α:=match o.1 with
 | .norm=>build b f0 l0 o.2 x n K.norm
 | .exit i=>build b f0 l0 o.2 x n (K.exit i)
 | .ret=>build b f0 l0 o.2 x n (retK o.2.vs K.ret)
def arms {α:Type} (b:Nat) (f0:Fr) (l0:Lo) (n:Nat) (K:Kt α):(os:List (Kd×Js))→sumT os→Option α
 | [],_=>none
 | [o],x=>ZCg b f0 l0 n K o x
 | o :: p :: r,x=>match x with
  | .inl y=>ZCg b f0 l0 n K o y
  | .inr y=>arms b f0 l0 n K (p :: r) y
abbrev Go (α:Type):=Ann→Fr→Lo→Nat→Kt α→Option α
def ZUg:T→Bool
 | .int _ | .bool | .flt _ | .str=>true
 | .one a=>ZUg a
 | .pair a b=>match ZUg a with
  | true=>ZUg b
  | false=>false
 | _=>false
def ZDc:V→Bool
 | .data t _=>ZUg t
 | .undef | .nilS | .nl=>true
 | .cons a b=>match ZDc a with
  | true=>ZDc b
  | false=>false
 | .agg c=>ZDc c
 | .tup c=>ZDc c
 | _=>false
def Zyh {ρ:Type} (e:Ev ρ):List Nat→Ev ρ
 | []=>e
 | u :: r=>.rdL u λ_ L=>match L with
  | .own ty t xs false=>.wrL u (.own ty t xs true) (Zyh e r)
  | .own _ _ _ true=>Zyh e r
  | _=>.fail
def ZGj {ρ:Type} (e:Ev ρ):List (Nat×T)→Ev ρ
 | []=>e
 | p :: r=>.rdS p.1 λv=>match v with
  | .ptr u off=>conv FU (.ptr p.2) (.ptr u off) λy=>.wrS p.1 (.vp p.2 y 0) (ZGj e r)
  | _=>.fail
def Zwg (d:Nat):Nat→V
 | 0=>.nl
 | k+1=>.cons (.own d) (Zwg d k)
def nbL (n n':Nat) (f':Fr) (l' l:Lo):List Nat→Option (Fr×Lo×Nat)
 | []=>some ([],l,n')
 | [s]=>match lkE f' s with
  | some ⟨_,_,.ptr u 0⟩=>match lkE l' u,lkE l u,Nat.blt n u with
   | some ⟨_,_,.box ty c⟩,none,true=>match c.isAgg with
    | true=>some ([⟨s,n',.ptr u 0⟩],⟨u,n',.box ty (.agg (Zwg n c.size))⟩ :: l,n'+1)
    | false=>none
   | _,_,_=>none
  | _=>none
 | _=>none
def Zlb (us:List Nat):Lo→Lo
 | []=>[]
 | e :: r=>match Zja us e.k with
  | true=>e :: Zlb us r
  | false=>Zlb us r
def Zfc (f:Fr) (r:Fr):List Nat→Fr
 | []=>r
 | s :: ss=>match lkE f s with
  | some e=>match ZDc e.x with
   | true=>e :: Zfc f r ss
   | false=>Zfc f r ss
  | none=>Zfc f r ss
def ZZi {α:Type} (b:Nat) (ks:List Nat) (ann:Ann) (f:Fr) (l:Lo) (n:Nat) (K:Kt α) (g:List Nat→(β:Type)→Go β):Option α:=match ann with
 | .cut j a=>bnd (g ks (sumT j.outs) a f l n
   {
    norm:=λf' l' n'=>ZHc b n n' f l .norm .nl f' l' j.outs some,
    exit:=λi f' l' n'=>ZHc b n n' f l (.exit i) .nl f' l' j.outs some,
    ret:=λc l' n'=>ZHc b n n' f l .ret c [] l' j.outs some }) λx=>arms b f l n K j.outs x
 | a=>g ks α a f l n K
def Ztg {α:Type} (b:Nat) (ks:List Nat) (ann:Ann) (f:Fr) (l:Lo) (n:Nat) (K:Kt α) (g:List Nat→(β:Type)→Go β):Option α:=match ann with
 | .lend us bs nb fl keep a=>match idsOf f l (us.map Pl.sl) with
  | some ids=>ZIa n (ZGj (Zyh (.done ()) ids) bs) f l λ_ f1 l1=>ZZi b (keep++ks) a f1 (Zlb ids l1) (n+1)
    {
     norm:=λf' l' n'=>match nbL n n' f' l' l nb with
      | some (fb,lb,m)=>K.norm (fb++Zfc f' (Zhb f keep) fl) lb m
      | none=>none,
     exit:=λi f' _ n'=>K.exit i (Zfc f' (Zhb f keep) fl) l n',
     ret:=λc _ n'=>match ZDc c with
      | true=>K.ret c l n'
      | false=>none } g
  | none=>none
 | a=>ZZi b ks a f l n K g
def rounds {α:Type} (g:(β:Type)→Go β) (a:Ann):Nat→Fr→Lo→Nat→Kt α→Option α
 | 0,_,_,_,_=>none
 | k+1,f,l,n,K=>g α a f l n { K with norm:=λf l n=>rounds g a k f l n K }
def loopI {α:Type} (b:Nat) (ann:Ann) (f:Fr) (l:Lo) (n:Nat) (K:Kt α) (g:(β:Type)→Go β):Option α:=match ann with
 | .cut j a=>Zie b n n f l f l j.head λz=>bnd (Zi (λs=>build b f l j.head s n λf2 l2 m=>g (jT j.head ⊕ sumT j.outs) a f2 l2 m
    {
     norm:=λf' l' n'=>Zie b n n' f l f' l' j.head λx=>some (.inl x),
     exit:=λi f' l' n'=>ZHc b n n' f l (.exit i) .nl f' l' j.outs λx=>some (.inr x),
     ret:=λc l' n'=>ZHc b n n' f l .ret c [] l' j.outs λx=>some (.inr x) }) Zm z)
    λx=>arms b f l n K j.outs x
 | .unroll k a=>rounds g a k f l n K
 | _=>none
def opdV (f:Fr) (x:Operand):Option V:=match x with
 | .tmp t=>match lkE f t with
  | some e=>some e.x
  | none=>none
 | .const c=>Zdj c
 | .func g=>some (.fn g .nl)
 | .global _=>none
def Zrk (f:Fr):List Operand→Option V
 | []=>some .nl
 | x :: r=>match opdV f x,Zrk f r with
  | some (.tup _),_=>none
  | some v,some c=>some (.cons v c)
  | _,_=>none
abbrev CallF:=(α:Type)→FuncId→V→Lo→Nat→(V→Lo→Nat→Option α)→Option α
def byCon (C:Cf) (o:Oper) (g:FuncId):Bool:=match o.dst with
 | some d=>match Zja C.mats (d+300000) with
  | true=>false
  | false=>match ZV C.pows g,ZV C.cons g,ZV C.owns g,ZV C.ins g,ZV C.omats g,ZV C.dels g with
   | none,none,none,none,none,none=>false
   | _,_,_,_,_,_=>true
 | none=>true
def Z1f (C:Cf) (f:Fr) (o:Oper):Option (FuncId×V):=match o.op with
 | .call c=>match c.callee with
  | .value x=>match opdV f x with
   | some (.fn g cap)=>match byCon C o g with
    | true=>none
    | false=>match Zrk f c.args.toList with
     | some ags=>some (g,appV ags cap)
     | none=>none
   | _=>none
  | _=>none
 | _=>none
def inl1 {α:Type} (cf:CallF) (o:Oper) (g:FuncId) (ags:V) (f:Fr) (l:Lo) (n:Nat) (K:Fr→Lo→Nat→Option α):Option α:=match o.dst with
 | some d=>cf α g ags l (n+1) λr l' m=>K (⟨d,n,ZLc r⟩ :: f) l' m
 | none=>none
def Zhj {α:Type} (o:Oper) (f:Fr) (l:Lo) (n:Nat) (K:Fr→Lo→Nat→Option α):Option α:=ZIa n (Zmg o) f l λ_ f' l'=>K f' l' (n+1)
def inlG {α:Type} (cf:CallF) (ops:List Oper) (o:Oper) (g:FuncId) (ags:V) (f:Fr) (l:Lo) (n:Nat) (K:Fr→Lo→Nat→Option α):Option α:=match o.guard with
 | none=>inl1 cf o g ags f l n K
 | some (j,w)=>match ops[j]? with
  | some q=>match q.dst with
   | some t=>match lkE f t with
    | some ⟨_,s,.data .bool b⟩=>match w with
     | true=>ifb b (inl1 cf o g ags (⟨t,s,.data .bool true⟩ :: f) l n K) (Zhj o (⟨t,s,.data .bool false⟩ :: f) l n K)
     | false=>ifb b (Zhj o (⟨t,s,.data .bool true⟩ :: f) l n K) (inl1 cf o g ags (⟨t,s,.data .bool false⟩ :: f) l n K)
    | some ⟨_,_,.undef⟩=>Zhj o f l n K
    | _=>none
   | none=>none
  | none=>none
def ZXb {α:Type} (C:Cf) (cf:CallF) (ops:List Oper):List Oper→Fr→Lo→Nat→(Fr→Lo→Nat→Option α)→Option α
 | [],f,l,n,K=>K f l n
 | o :: r,f,l,n,K=>match Z1f C f o with
  | none=>ZIa n (gop C ops n o) f l λ_ f l=>ZXb C cf ops r f l (n+1) K
  | some (g,ags)=>inlG cf ops o g ags f l n λf l n=>ZXb C cf ops r f l n K
def ZIf {α:Type} (C:Cf) (ops:List Oper):List Oper→Fr→Lo→Nat→(Fr→Lo→Nat→List Fp→Option α)→Option α
 | [],f,l,n,K=>K f l n []
 | o :: r,f,l,n,K=>ZJb n (gop C ops n o) f l Fp.no λ_ f l p=>ZIf C ops r f l (n+1) λf l n ps=>K f l n (p :: ps)
def Zss (o:Oper):Bool:=match o.op,o.guard with
 | .call c,none=>match c.callee with
  | .value (.tmp _)=>true
  | _=>false
 | _,_=>false
def allB (m:Nat):Nat→Bool
 | 0=>true
 | k+1=>match Nat.testBit m k with
  | true=>allB m k
  | false=>false
def ZFj (ops:List Oper):Option Oper:=match ops.getLast? with
 | none=>none
 | some o=>match Zss o with
  | false=>none
  | true=>match allB (ZFc (Z5a ops.dropLast []) o.after.toList 0) ops.dropLast.length with
   | true=>some o
   | false=>none
def readK:Op→Bool
 | .move _=>true
 | .load _ _=>true
 | .nilCheck _=>true
 | .fieldAddr _ _ _=>true
 | .indexAddr _ _ _=>true
 | .makeFunc _ _ _=>true
 | _=>false
def Zyg (C:Cf) (o:Oper):Bool:=match o.guard,o.dst with
 | none,some _=>match readK o.op,onT C o,onA C o,onQ C o with
  | true,false,false,false=>true
  | _,_,_,_=>false
 | _,_=>false
def flK (k n:Nat):Array Bool:=((List.range n).map λi=>decide (i<k)).toArray
def ancs (ops:List Oper) (k:Nat) (o:Oper):List Nat:=(List.range k).reverse.filter λj=>Nat.testBit (ZFc (Z5a (ops.take k) []) o.after.toList 0) j
def midOK (C:Cf) (ops:List Oper) (k:Nat) (o:Oper):Bool:=okF ops.toArray (flK k ops.length)&&(ops.take k).all (Zyg C)&&o.guard.isNone&&Zld ops.toArray k [] (ancs ops k o)&&(List.range ops.length).all λi=>Nat.ble i k || match ops[i]? with
 | some q=>q.guard.isNone&&(List.range i).all λj=>ZFb ops.toArray i j
 | none=>false
def stay1 (P:Program) (q:Oper) (dk:Nat) (f:Fr) (l:Lo):Bool:=match q.op,q.dst with
 | .move (.tmp s),_=>!(Nat.beq s dk)
 | .load t (.tmp s),some d=>!(Nat.beq s dk)&&match szA P t,lkE f s,lkE f d with
  | some _,some ⟨_,_,.ptr u off⟩,some ⟨_,_,.own u2⟩=>match lkE l u,lkE l u2 with
   | some ⟨_,_,.box _ c⟩,some _=>match szA P t with
    | some z=>match Zga FU c off z.1 z.2 with
     | some (.own u3)=>Nat.beq u2 u3
     | _=>false
    | none=>false
   | _,_=>false
  | _,_,_=>false
 | _,_=>false
def stays (P:Program) (ops:List Oper) (k:Nat) (o:Oper) (f:Fr) (l:Lo):Bool:=match o.dst with
 | some dk=>(List.range k).all λj=>(ancs ops k o).contains j || match ops[j]? with
  | some q=>stay1 P q dk f l
  | none=>false
 | none=>false
def imid {α:Type} (C:Cf) (cf:CallF) (ops:List Oper) (k:Nat) (f:Fr) (l:Lo) (n:Nat) (K:Fr→Lo→Nat→Option α):Option α:=match ops[k]? with
 | some o=>match midOK C ops k o with
  | true=>ZXb C cf ops (ops.take k) f l n λf1 l1 n1=>match Z1f C f1 o with
   | some (g,ags)=>inl1 cf o g ags f1 l1 n1 λf2 l2 n2=>match stays C.P ops k o f2 l2 with
    | true=>ZXb C cf ops (ops.drop (k+1)) f2 l2 n2 K
    | false=>none
   | none=>none
  | false=>none
 | none=>none
def midAt (ms:List Nat):List Oper→Nat→Option Nat
 | [],_=>none
 | o :: r,k=>match o.dst with
  | some d=>match Zja ms (d+500000) with
   | true=>some k
   | false=>midAt ms r (k+1)
  | none=>midAt ms r (k+1)
def ZKg (K:Nat) (ks:List Nat):List Oper→Bool
 | []=>true
 | o :: r=>match o.dst with
  | some d=>match Nat.blt d K,Zja ks d with
   | true,false=>ZKg K ks r
   | _,_=>false
  | none=>ZKg K ks r
def ZXl (f:Fr) (l:Lo) (P:Program):ResultVar→Option V
 | .tmp t=>match lkE f t with
  | some e=>some e.x
  | none=>none
 | .cell x t=>match lkE f x with
  | some ⟨_,_,.ptr u 0⟩=>match lkE l u with
   | some ⟨_,_,.box _ c⟩=>match szA P t with
    | some q=>Zga FU c 0 q.1 q.2
    | none=>none
   | _=>none
  | _=>none
def ZCi (f:Fr) (l:Lo) (P:Program):List ResultVar→Option V
 | []=>some .nl
 | r :: rs=>match ZXl f l P r,ZCi f l P rs with
  | some (.tup _),_=>none
  | some v,some c=>some (.cons v c)
  | _,_=>none
def Zmj (C:Cf) (ops:List Oper):Option (Oper×Operand):=match C.ex.pan with
 | none=>none
 | some p=>match ops.getLast? with
  | none=>none
  | some o=>match o.op,o.guard,o.dst with
   | .call c,none,some _=>match c.callee,c.args.toList with
    | .value (.func g),[x]=>match Nat.beq g p.1 with
     | true=>some (o,x)
     | false=>none
    | _,_=>none
   | _,_,_=>none
def Zti (C:Cf) (i:Nat):Bool:=match C.ex.pan with
 | none=>false
 | some _=>Nat.beq i 999
def imust {α:Type} (C:Cf) (cf:CallF) (ops:List Oper) (o:Oper) (x:Operand) (f:Fr) (l:Lo) (n:Nat) (K:Kt α):Option α:=ZXb C cf ops ops.dropLast f l n λf1 l1 n1=>match opdV f1 x,o.dst with
 | some (.data .bool b),some d=>ifb b (K.norm (⟨d,n1,.tup .nl⟩ :: f1) l1 (n1+1)) (K.exit 999 f1 l1 n1)
 | _,_=>none
def Zyb (C:Cf) (cf:CallF) (rs:List ResultVar) (b N:Nat):Code→List Nat→(α:Type)→Go α
  | .skip,_,_,_,f,l,n,K=>K.norm f l n
  | .label _,_,_,_,f,l,n,K=>K.norm f l n
  | .region _ ops draw,ks,_,ann,f,l,n,K=>Ztg b ks ann f l n K λks _ _ f l n K=>match draw,ZKg N ks ops.toList with
    | false,true=>match Zmj C ops.toList with
      | none=>ZXb C cf ops.toList ops.toList f l n K.norm
      | some (o,x)=>imust C cf ops.toList o x f l n K
    | true,true=>match C.P.follows .mixedOrders,Zoe 0 ops.toList with
      | true,true=>match midAt C.mats ops.toList 0 with
       | some k=>imid C cf ops.toList k f l n K.norm
       | none=>match ZFj ops.toList with
        | none=>ZIf C ops.toList ops.toList f l n λf l n ps=>match Zme [] (Z5a ops.toList []) ps with
          | true=>K.norm f l n
          | false=>none
        | some o=>ZIf C ops.toList ops.toList.dropLast f l n λf l n ps=>match Zme [] (Z5a ops.toList.dropLast []) ps with
          | true=>ZXb C cf ops.toList [o] f l n K.norm
          | false=>none
      | _,_=>none
    | _,false=>none
  | .seq x y,ks,_,ann,f,l,n,K=>Ztg b ks ann f l n K λks β a f l n K=>Zyb C cf rs b N x ks β a.fst f l n { K with norm:=λf l n=>Zyb C cf rs b N y ks β a.snd f l n K }
  | .cond c x y,ks,_,ann,f,l,n,K=>Ztg b ks ann f l n K λks β a f l n K=>match c with
    | .tmp t=>match lkE f t with
      | some ⟨_,s,.data .bool q⟩=>ifb q (Zyb C cf rs b N x ks β a.fst (⟨t,s,.data .bool true⟩ :: f) l n K) (Zyb C cf rs b N y ks β a.snd (⟨t,s,.data .bool false⟩ :: f) l n K)
      | _=>none
    | .const (.bool true)=>Zyb C cf rs b N x ks β a.fst f l n K
    | .const (.bool false)=>Zyb C cf rs b N y ks β a.snd f l n K
    | _=>none
  | .block id x,ks,_,ann,f,l,n,K=>Ztg b ks ann f l n K λks β a f l n K=>match Zti C id with
    | true=>none
    | false=>Zyb C cf rs b N x ks β a.fst f l n { K with exit:=λi=>match Nat.beq i id with
      | true=>K.norm
      | false=>K.exit i }
  | .loop x,ks,_,ann,f,l,n,K=>loopI b ann f l n K λβ a f l n K=>Zyb C cf rs b N x ks β a.fst f l n K
  | .scope x,ks,_,ann,f,l,n,K=>Zyb C cf rs b N x ks _ ann.fst f l n K
  | .exit i,_,_,_,f,l,n,K=>match Zti C i with
    | true=>none
    | false=>K.exit i f l n
  | .ret,_,_,_,f,l,n,K=>match ZCi f l C.P rs with
    | some c=>K.ret c l n
    | none=>none
  | _,_,_,_,_,_,_,_=>none
def endN {α:Type} (fn:Func) (K:V→Lo→Nat→Option α) (_:Fr) (l:Lo) (n:Nat):Option α:=match fn.results.toList with
 | []=>K .nl l n
 | _=>none
abbrev Inl:=List (FuncId×Func×Ann)
def selA:Ann→Fr→Ann
 | .sel i a b,f=>match lkE f i with
  | some ⟨_,_,.row _ _ _ _ _ _⟩=>selA a f
  | _=>selA b f
 | a,_=>a
def ZGe (n:Nat):Lo→Bool
 | []=>true
 | e :: r=>match e.x with
  | .box _ _=>match Nat.blt e.st n with
   | true=>ZGe n r
   | false=>false
  | .lst _ _ _ _=>false
  | _=>ZGe n r
def callB {α:Type} (cb:ConB) (ags:V) (l:Lo) (n:Nat) (K:V→Lo→Nat→Option α):Option α:=match ags with
 | .cons (.ptr u 0) rest=>ZIa n (ZOc cb.args rest λx=>Zjc 0 (.box cb.ty cb.c) u λz=>.bind (cb.F z x) λr=>.done r) [] l λr _ l'=>match ZGe n l' with
  | true=>match Z1 0 (.box cb.ty cb.c) r.1 u (n+1) with
   | (l2,m)=>K (ZCc cb.res r.2) (l2++l') m
  | false=>none
 | _=>none
def Zcj:V→Option (V×V)
 | .cons x .nl=>some (.nl,x)
 | .cons x r=>match Zcj r with
  | some (r',y)=>some (.cons x r',y)
  | none=>none
 | _=>none
def callS {α:Type} (cs:ConS) (ags:V) (l:Lo) (n:Nat) (K:V→Lo→Nat→Option α):Option α:=match Zcj ags with
 | some (rest,.own u)=>ZIa n (ZOc cs.args rest λx=>Zjc 0 (.own cs.ty cs.t) u λz=>.bind (cs.F z x) λr=>.done r) [] l λr _ l'=>match ZGe n l' with
  | true=>match Z1 0 (.own cs.ty cs.t) r.1 u (n+1) with
   | (l2,m)=>K (ZCc cs.res r.2) (l2++l') m
  | false=>none
 | _=>none
def ZTg (C:Cf) (inl:Inl):Nat→CallF
  | 0,_,_,_,_,_,_=>none
  | d+1,α,g,ags,l,n,K=>match ZV C.boxs g with
    | some cb=>callB cb ags l n K
    | none=>match ZV C.sls g with
     | some cs=>callS cs ags l n K
     | none=>match ZV inl g with
      | some (fn,ann)=>match fn.body,Nat.ble (lenV ags) fn.ntmps with
        | some c,true=>Zyb C (ZTg C inl d) fn.results.toList n fn.ntmps c [] α (selA ann (ZBc n 0 ags)) (ZBc n 0 ags) l (n+1) ⟨endN fn K,λ_ _ _ _=>none,K⟩
        | _,_=>none
      | none=>none
def Zxd:(ts:List T)→ZC ts→V
 | [],_=>.nl
 | [t],x=>.cons (.data t x) .nl
 | t :: u :: r,x=>.cons (.data t x.1) (Zxd (u :: r) x.2)
def Zch (C:Cf) (inl:Inl) (fn:Func) (ann:Ann) (ats rts:List T) (x:ZC ats):Option (ZC rts):=match fn.body with
 | some c=>Zyb C (ZTg C inl 20) fn.results.toList 0 fn.ntmps c [] _ ann (ZBc 0 0 (Zxd ats x)) [] 1 ⟨λ_ _ _=>none,λ_ _ _ _=>none,λc l n=>ZIa n (ZOc rts c λy=>.done y) [] l λy _ _=>some y⟩
 | none=>none
variable {P:Program} {K:Nat} {w0:Base} {v0:Zb} {σ:List (Nat×Value)} {ℓ:List Loc} {v:Zb} {a:Act} {w:World}
def OwnR {α:Type} (A:Rep α) (T:TypeId) (sz:Nat) (l:List α) (w:World) (r:Value) (v':Zb) (w':World):Prop :=
 ∃ ob n cap cs,r = .slice (mkA ob) n cap∧(Loc.own ob T sz n cap cs).holds w'∧(∀ b,ob=some b→w.heap.size≤b∧v' b=none)∧A.rels v' cs l∧n=l.length
def RetO (P:Program) (f:FuncId) (args:Array Value) (w:World) (v:Zb) (R:Value→Zb→World→Prop):Prop :=
 Calls P f args w λe w'=>∃ r v',e = .returned r∧Ext w w'∧VStep w v w' v'∧R r v' w'
end Go.Eng
namespace Go.Eng
open Go.RowKit
inductive Gh where
 | box (b:Nat)
 | own (ob:Option Nat) (cap:Nat)
 | mat (ob:Option Nat) (cap:Nat) (rows:List (Option Nat×Nat))
def V.val (x:V) (cs:List Value):Value:=match x.isAgg with
 | true=>.agg cs.toArray
 | false=>cs.headD Go.undef
def mpH (g:Gh):Option MPd→Value→Prop
 | none,y=>y = .map none
 | some _,y=>∃ b,g = .box b∧y = .map (some b)
def ZZe (g:Gh):Option MPd→List Loc→Prop
 | none,es=>es=[]
 | some m,es=>∃ b,g = .box b∧es=[.mp b (mpV m)]∧∀ x ∈ m,inR .i64 x.2
theorem Z9u {g:Gh} {m m':Option MPd} {y:Value} (h:mpH g m y) (e:m'.isNone=m.isNone):mpH g m' y:=by
 cases m <;> cases m' <;> first | (cases e;done) | exact h
theorem ZSx {g:Gh} {m:Option MPd} {y:Value} (h:mpH g m y):plain y=true:=by
 cases m with
 | none=>rw[show y=_ from h];rfl
 | some m=>obtain⟨b,_,h⟩:=h;rw[h];rfl
def Zug (γ:Nat→Gh) (u:Nat):LV→Value→Prop
 | .own _ _ xs _,y=>∃ ob cap,γ u = .own ob cap∧y = .slice (mkA ob) xs.length cap
 | .mat _ _ _ m _,y=>∃ ob cap rows,γ u = .mat ob cap rows∧y = .slice (mkA ob) m.length cap
 | .mid _ _ _ m _ _,y=>∃ ob cap rows,γ u = .mat ob cap rows∧y = .slice (mkA ob) m.length cap
 | .box _ _,_=>False
 | .mp m,y=>mpH (γ u) m y
 | .lst _ _ xs _,y=>∃ ob cap,γ u = .own ob cap∧y = .slice (mkA ob) (xs.length+1) cap
 | .it _ _,_=>False
def ZBk (γ:Nat→Gh) (u off:Nat):LV→Value→Prop
 | .box _ _,y=>∃ b,γ u = .box b∧y = .pointer (some ⟨b,off,none⟩)
 | .lst _ t xs _,y=>∃ b cap,γ u = .own (some b) cap∧y = .pointer (some ⟨b,xs.length*t.n+off,none⟩)
 | .it _ _,y=>∃ b,γ u = .box b∧y = .pointer (some ⟨b,off,none⟩)
 | .own _ _ _ _,_=>True
 | _,_=>False
def okEl (γ:Nat→Gh) (u i cv:Nat) (t:T) (x:t.den) (off st:Nat):LV→Value→Prop
 | .own _ s xs _,y=>∃ b cap,γ u = .own (some b) cap∧y = .pointer (some ⟨b,0+i*s.n+off,none⟩)∧i<xs.length∧(st=cv→∃ ys,Zkc s t xs=some ys∧ys[i]? = some x)
 | .box _ _,y=>∃ b,γ u = .box b∧y = .pointer (some ⟨b,0+i*t.n+off,none⟩)
 | _,_=>False
def okRp (γ:Nat→Gh) (u i cv:Nat) (t:T) (r:List t.den) (st:Nat):LV→Value→Prop
 | .mat _ _ s m _,y=>∃ b cap rows,γ u = .mat (some b) cap rows∧y = .pointer (some ⟨b,0+i*1,none⟩)∧i<m.length∧(st=cv→∃ m',ZZb s t m=some m'∧m'[i]? = some r)
 | .mid _ _ s m _ _,y=>∃ b cap rows,γ u = .mat (some b) cap rows∧y = .pointer (some ⟨b,0+i*1,none⟩)∧i<m.length∧(st=cv→∃ m',ZZb s t m=some m'∧m'[i]? = some r)
 | .own _ _ _ _,_=>True
 | _,_=>False
def Zyi (γ:Nat→Gh) (u i hv cv:Nat) (t:T) (r:List t.den) (st:Nat):LV→Value→Prop
 | .mat _ _ s m hv',y=>hv'=hv→∃ ob cap rows obi capi,γ u = .mat ob cap rows∧rows[i]? = some (obi,capi)∧y = .slice (mkA obi) r.length capi∧(∃ ri,m[i]? = some ri∧ri.length=r.length)∧(st=cv→∃ m',ZZb s t m=some m'∧m'[i]? = some r)
 | .mid _ _ s m hv' _,y=>hv'=hv→∃ ob cap rows obi capi,γ u = .mat ob cap rows∧rows[i]? = some (obi,capi)∧y = .slice (mkA obi) r.length capi∧(∃ ri,m[i]? = some ri∧ri.length=r.length)∧(st=cv→∃ m',ZZb s t m=some m'∧m'[i]? = some r)
 | .own _ _ _ _,_=>True
 | _,_=>False
def Zhk (γ:Nat→Gh) (u i j hv cv:Nat) (t:T) (r:List t.den) (x:t.den) (off st:Nat):LV→Value→Prop
 | .mat _ _ s m hv',y=>hv'=hv→∃ ob cap rows bi capi,γ u = .mat ob cap rows∧rows[i]? = some (some bi,capi)∧y = .pointer (some ⟨bi,0+j*s.n+off,none⟩)∧(∃ ri,m[i]? = some ri∧ri.length=r.length)∧j<r.length∧(st=cv→(∃ m',ZZb s t m=some m'∧m'[i]? = some r)∧r[j]? = some x)
 | .mid _ _ s m hv' _,y=>hv'=hv→∃ ob cap rows bi capi,γ u = .mat ob cap rows∧rows[i]? = some (some bi,capi)∧y = .pointer (some ⟨bi,0+j*s.n+off,none⟩)∧(∃ ri,m[i]? = some ri∧ri.length=r.length)∧j<r.length∧(st=cv→(∃ m',ZZb s t m=some m'∧m'[i]? = some r)∧r[j]? = some x)
 | .own _ _ _ _,_=>True
 | _,_=>False
def RR (v:Zb) (γ:Nat→Gh) (l:Lo):Bool→V→List Value→Prop
 | false,.data t x,cs=>t.rep.rel v cs x
 | false,.nilS,cs=>cs=[.slice none 0 0]
 | false,.own u,cs=>∃ y,cs=[y]∧plain y=true∧∀ e,lkE l u=some e→Zug γ u e.x y
 | false,.row u i hv cv t r,cs=>∃ y,cs=[y]∧plain y=true∧∀ e,lkE l u=some e→Zyi γ u i hv cv t r e.st e.x y
 | false,.ptr u off,cs=>∃ y,cs=[y]∧plain y=true∧∀ e,lkE l u=some e→ZBk γ u off e.x y
 | false,.el u i cv t x off,cs=>∃ y,cs=[y]∧plain y=true∧(∃ c,t.rep.rel v c x)∧∀ e,lkE l u=some e→okEl γ u i cv t x off e.st e.x y
 | false,.rp u i _ cv t r,cs=>∃ y,cs=[y]∧plain y=true∧∀ e,lkE l u=some e→okRp γ u i cv t r e.st e.x y
 | false,.rel u i j hv cv t r x off,cs=>∃ y,cs=[y]∧plain y=true∧∀ e,lkE l u=some e→Zhk γ u i j hv cv t r x off e.st e.x y
 | false,.vp t x off,cs=>∃ b o c,At v b o c∧t.rep.rel v c x∧cs=[.pointer (some ⟨b,o+off,none⟩)]
 | false,.nl,cs=>cs=[]
 | false,.cons a b,cs=>∃ c1 c2,cs=c1++c2∧RR v γ l false a c1∧RR v γ l false b c2
 | false,.agg c,cs=>RR v γ l false c cs
 | false,.tup _,_=>False
 | false,.fn f c,cs=>∃ vs,RR v γ l true c vs∧cs=[.func (.func f) #[] vs.toArray]
 | false,.ifc ty c,cs=>∃ cc,RR v γ l false c cc∧cs=[.iface ty (c.val cc)]
 | false,.undef,cs=>cs=[undef]
 | true,.nl,cs=>cs=[]
 | true,.cons a b,cs=>∃ c xs,cs=a.val c :: xs∧RR v γ l false a c∧RR v γ l true b xs
 | true,_,_=>False
def RV (v:Zb) (γ:Nat→Gh) (l:Lo) (x:V) (y:Value):Prop:=match x with
 | .tup c=>∃ vs,RR v γ l true c vs∧y = .tuple vs.toArray
 | x=>∃ cs,RR v γ l false x cs∧y=x.val cs
def V.ok (U:Nat→Prop):V→Prop
 | .own u=>U u
 | .row u _ hv cv _ _=>U u∧U hv∧U cv
 | .ptr u _=>U u
 | .el u _ cv _ _ _=>U u∧U cv
 | .rp u _ hv cv _ _=>U u∧U hv∧U cv
 | .rel u _ _ hv cv _ _ _ _=>U u∧U hv∧U cv
 | .cons a b=>a.ok U∧b.ok U
 | .agg c=>c.ok U
 | .tup c=>c.ok U
 | .fn _ c=>c.ok U
 | .ifc _ c=>c.ok U
 | _=>True
theorem V.ok.mono {U U':Nat→Prop} (h:∀ n,U n→U' n):∀ {x:V},x.ok U→x.ok U'
 | .own _,k=>h _ k
 | .row _ _ _ _ _ _,k=>⟨h _ k.1,h _ k.2.1,h _ k.2.2⟩
 | .ptr _ _,k=>h _ k
 | .el _ _ _ _ _ _,k=>⟨h _ k.1,h _ k.2⟩
 | .rp _ _ _ _ _ _,k=>⟨h _ k.1,h _ k.2.1,h _ k.2.2⟩
 | .rel _ _ _ _ _ _ _ _ _,k=>⟨h _ k.1,h _ k.2.1,h _ k.2.2⟩
 | .cons _ _,k=>⟨V.ok.mono h k.1,V.ok.mono h k.2⟩
 | .agg c,k=>V.ok.mono (x:=c) h k
 | .tup c,k=>V.ok.mono (x:=c) h k
 | .fn _ c,k=>V.ok.mono (x:=c) h k
 | .ifc _ c,k=>V.ok.mono (x:=c) h k
 | .data _ _,_=>trivial
 | .nilS,_=>trivial
 | .vp _ _ _,_=>trivial
 | .nl,_=>trivial
 | .undef,_=>trivial
def CEm (U:Nat→Prop) (γ γ':Nat→Gh) (u:Nat) (st st':Nat) (t:T) (m:List (List t.den)) (hv:Nat) (t':T) (m':List (List t'.den)) (hv':Nat):Prop:=t'=t∧m'.length=m.length∧(∃ ob cap rows rows',γ u = .mat ob cap rows∧γ' u = .mat ob cap rows'∧(U hv'→hv'=hv∧rows'=rows∧m'.map List.length=m.map List.length))∧(U st'→st'=st∧(⟨t',m'⟩:(t:T)×List (List t.den))=⟨t,m⟩)
def CE (U:Nat→Prop) (γ γ':Nat→Gh) (u:Nat) (st st':Nat) (L L':LV):Prop:=match L,L' with
 | .box _ _,.box _ _=>γ' u=γ u
 | .own _ t xs _,.own _ t' xs' _=>γ' u=γ u∧t'=t∧xs'.length=xs.length∧(U st'→st'=st∧(⟨t',xs'⟩:(t:T)×List t.den)=⟨t,xs⟩)
 | .mat _ _ t m hv,.mat _ _ t' m' hv'=>CEm U γ γ' u st st' t m hv t' m' hv'
 | .mat _ _ t m hv,.mid _ _ t' m' hv' _=>CEm U γ γ' u st st' t m hv t' m' hv'
 | .mid _ _ t m hv _,.mat _ _ t' m' hv'=>CEm U γ γ' u st st' t m hv t' m' hv'
 | .mid _ _ t m hv _,.mid _ _ t' m' hv' _=>CEm U γ γ' u st st' t m hv t' m' hv'
 | .mid _ _ _ m _ _,.own _ _ xs' _=>∃ ob cap rows,γ u = .mat ob cap rows∧γ' u = .own ob cap∧xs'.length=m.length
 | .mat _ _ _ m _,.own _ _ xs' _=>∃ ob cap rows,γ u = .mat ob cap rows∧γ' u = .own ob cap∧xs'.length=m.length
 | .mp m,.mp m'=>γ' u=γ u∧m'.isNone=m.isNone
 | .lst _ t xs _,.lst _ t' xs' _=>γ' u=γ u∧t'=t∧xs'.length=xs.length
 | .it _ _,.it _ _=>γ' u=γ u
 | .lst _ _ xs _,.own _ _ xs' _=>γ' u=γ u∧xs'.length=xs.length+1
 | _,_=>False
structure Le (U:Nat→Prop) (v:Zb) (γ:Nat→Gh) (l:Lo) (v':Zb) (γ':Nat→Gh) (l':Lo):Prop where
 v:v.le v'
 l:∀ u e',U u→lkE l' u=some e'→∃ e,lkE l u=some e∧CE U γ γ' u e.st e'.st e.x e'.x
theorem Zup {α β:Type} {m:List (List α)} {m':List (List β)} (h:m'.map List.length=m.map List.length) {i:Nat} {r:List α} (hr:m[i]? = some r):∃ r',m'[i]? = some r'∧r'.length=r.length:=by
 have:=congrArg (·[i]?) h;simp only[List.getElem?_map,hr,Option.map_some]at this
 cases hm:m'[i]? with
 | none=>rw[hm]at this;cases this
 | some r'=>rw[hm]at this;exact⟨r',rfl,Option.some.inj this⟩
section
variable {U:Nat→Prop} {v v':Zb} {γ γ':Nat→Gh} {l l':Lo}
theorem ZVs {u:Nat} {L L':LV} {st st':Nat} {y:Value} (h:Zug γ u L y) (c:CE U γ γ' u st st' L L'):Zug γ' u L' y:=by
 have key:∀ {t t':T} {m:List (List t.den)} {m':List (List t'.den)} {hv hv':Nat},(∃ ob cap rows,γ u = .mat ob cap rows∧y = .slice (mkA ob) m.length cap)→CEm U γ γ' u st st' t m hv t' m' hv'→∃ ob cap rows,γ' u = .mat ob cap rows∧y = .slice (mkA ob) m'.length cap:=by
  rintro t t' m m' hv hv' ⟨ob',cap',rows2,h5,h6⟩ ⟨h1,h2,⟨ob,cap,rows,rows',h3,h4,_⟩,_⟩;rw[h3]at h5;cases h5;exact⟨_,_,rows',h4,by rw[h6,h2]⟩
 have key2:∀ {t:T} {m:List (List t.den)} {t':T} {xs':List t'.den},(∃ ob cap rows,γ u = .mat ob cap rows∧y = .slice (mkA ob) m.length cap)→(∃ ob cap rows,γ u = .mat ob cap rows∧γ' u = .own ob cap∧xs'.length=m.length)→∃ ob cap,γ' u = .own ob cap∧y = .slice (mkA ob) xs'.length cap:=by
  rintro t m t' xs' ⟨ob',cap',rows',h4,h5⟩ ⟨ob,cap,rows,h1,h2,h3⟩;rw[h1]at h4;cases h4;exact⟨_,_,h2,by rw[h5,h3]⟩
 cases L <;> cases L' <;> simp only[CE]at c <;> simp only[Zug]at h ⊢
 ·obtain⟨h1,h2,h3,_⟩:=c;obtain⟨ob,cap,h4,h5⟩:=h;exact⟨ob,cap,by rw[h1,h4],by rw[h5,h3]⟩
 all_goals first | exact key h c | exact key2 h c | (rw[c.1];exact Z9u h c.2) | skip
 ·obtain⟨ob,cap,h1,h2⟩:=h;exact⟨ob,cap,by rw[c.1,h1],by rw[c.2,h2]⟩
 ·obtain⟨ob,cap,h1,h2⟩:=h;exact⟨ob,cap,by rw[c.1,h1],by rw[c.2.2,h2]⟩
theorem ZPu {u off:Nat} {L L':LV} {st st':Nat} {y:Value} (h:ZBk γ u off L y) (c:CE U γ γ' u st st' L L'):ZBk γ' u off L' y:=by
 cases L <;> cases L' <;> simp only[CE]at c <;> simp only[ZBk]at h ⊢
 ·obtain⟨b,h1,h2⟩:=h;exact⟨b,by rw[c,h1],h2⟩
 ·obtain⟨b,cap,h1,h2⟩:=h;exact⟨b,cap,by rw[c.1,h1],by rw[c.2.2,congrArg T.n c.2.1,h2]⟩
 ·obtain⟨b,h1,h2⟩:=h;exact⟨b,by rw[c,h1],h2⟩
theorem ZBv {u i cv:Nat} {t:T} {x:t.den} {off:Nat} {L L':LV} {st st':Nat} {y:Value} (hU:U cv) (h:okEl γ u i cv t x off st L y) (c:CE U γ γ' u st st' L L'):okEl γ' u i cv t x off st' L' y:=by
 cases L <;> cases L' <;> simp only[CE]at c <;> simp only[okEl]at h ⊢
 ·obtain⟨b,h5,h6⟩:=h;exact⟨b,by rw[c,h5],h6⟩
 rename_i ty t1 xs fz ty' t2 xs' fz';obtain⟨h1,h2,h3,h4⟩:=c;subst h2;obtain⟨b,cap,h5,h6,h7,h8⟩:=h;refine⟨b,cap,by rw[h1,h5],h6,by omega,λe=>?_⟩;subst e;obtain⟨e1,e2⟩:=h4 hU
 cases e2
 exact h8 e1.symm
theorem Zrw {u i cv:Nat} {t:T} {r:List t.den} {L L':LV} {st st':Nat} {y:Value} (hU:U cv) (h:okRp γ u i cv t r st L y) (c:CE U γ γ' u st st' L L'):okRp γ' u i cv t r st' L' y:=by
 have key:∀ {t1 t2:T} {m:List (List t1.den)} {m':List (List t2.den)} {hv hv':Nat},(∃ b cap rows,γ u = .mat (some b) cap rows∧y = .pointer (some ⟨b,0+i*1,none⟩)∧i<m.length∧(st=cv→∃ m',ZZb t1 t m=some m'∧m'[i]? = some r))→CEm U γ γ' u st st' t1 m hv t2 m' hv'→∃ b cap rows,γ' u = .mat (some b) cap rows∧y = .pointer (some ⟨b,0+i*1,none⟩)∧i<m'.length∧(st'=cv→∃ m2,ZZb t2 t m'=some m2∧m2[i]? = some r):=by
  intro t1 t2 m m' hv hv' h c;obtain⟨h2,h3,⟨ob,cap,rows,rows',g1,g2,_⟩,h4⟩:=c;subst h2;obtain⟨b,cap',rw',h5,h6,h7,h8⟩:=h;rw[g1]at h5;cases h5;refine⟨b,cap,rows',g2,h6,by omega,λe=>?_⟩;subst e;obtain⟨e1,e2⟩:=h4 hU
  cases e2
  exact h8 e1.symm
 cases L <;> cases L' <;> simp only[CE]at c <;> simp only[okRp]at h ⊢
 all_goals exact key h c
theorem Zpy {u i hv cv:Nat} {t:T} {r:List t.den} {L L':LV} {st st':Nat} {y:Value} (hH:U hv) (hU:U cv) (h:Zyi γ u i hv cv t r st L y) (c:CE U γ γ' u st st' L L'):Zyi γ' u i hv cv t r st' L' y:=by
 have key:∀ {t1 t2:T} {m:List (List t1.den)} {m':List (List t2.den)} {hv1 hv2:Nat},(hv1=hv→∃ ob cap rows obi capi,γ u = .mat ob cap rows∧rows[i]? = some (obi,capi)∧y = .slice (mkA obi) r.length capi∧(∃ ri,m[i]? = some ri∧ri.length=r.length)∧(st=cv→∃ m2,ZZb t1 t m=some m2∧m2[i]? = some r))→CEm U γ γ' u st st' t1 m hv1 t2 m' hv2→(hv2=hv→∃ ob cap rows obi capi,γ' u = .mat ob cap rows∧rows[i]? = some (obi,capi)∧y = .slice (mkA obi) r.length capi∧(∃ ri,m'[i]? = some ri∧ri.length=r.length)∧(st'=cv→∃ m2,ZZb t2 t m'=some m2∧m2[i]? = some r)):=by
  intro t1 t2 m m' hv1 hv2 h c;obtain⟨h2,h3,⟨ob,cap,rows,rows',g1,g2,g3⟩,h4⟩:=c;subst h2;intro e;subst e;obtain⟨e1,e2,e3⟩:=g3 hH;obtain⟨ob',cap',rw',obi,capi,k1,k2,k3,⟨ri,k4,k5⟩,k6⟩:=h e1.symm;rw[g1]at k1;cases k1;subst e2;obtain⟨r',q1,q2⟩:=Zup e3 k4;refine⟨ob,cap,_,obi,capi,g2,k2,k3,⟨r',q1,by omega⟩,λe=>?_⟩;subst e;obtain⟨f1,f2⟩:=h4 hU
  cases f2
  exact k6 f1.symm
 cases L <;> cases L' <;> simp only[CE]at c <;> simp only[Zyi]at h ⊢
 all_goals exact key h c
theorem Zcy {u i j hv cv:Nat} {t:T} {r:List t.den} {x:t.den} {off:Nat} {L L':LV} {st st':Nat} {y:Value} (hH:U hv) (hU:U cv) (h:Zhk γ u i j hv cv t r x off st L y) (c:CE U γ γ' u st st' L L'):Zhk γ' u i j hv cv t r x off st' L' y:=by
 have key:∀ {t1 t2:T} {m:List (List t1.den)} {m':List (List t2.den)} {hv1 hv2:Nat},(hv1=hv→∃ ob cap rows bi capi,γ u = .mat ob cap rows∧rows[i]? = some (some bi,capi)∧y = .pointer (some ⟨bi,0+j*t1.n+off,none⟩)∧(∃ ri,m[i]? = some ri∧ri.length=r.length)∧j<r.length∧(st=cv→(∃ m2,ZZb t1 t m=some m2∧m2[i]? = some r)∧r[j]? = some x))→CEm U γ γ' u st st' t1 m hv1 t2 m' hv2→(hv2=hv→∃ ob cap rows bi capi,γ' u = .mat ob cap rows∧rows[i]? = some (some bi,capi)∧y = .pointer (some ⟨bi,0+j*t2.n+off,none⟩)∧(∃ ri,m'[i]? = some ri∧ri.length=r.length)∧j<r.length∧(st'=cv→(∃ m2,ZZb t2 t m'=some m2∧m2[i]? = some r)∧r[j]? = some x)):=by
  intro t1 t2 m m' hv1 hv2 h c;obtain⟨h2,h3,⟨ob,cap,rows,rows',g1,g2,g3⟩,h4⟩:=c;subst h2;intro e;subst e;obtain⟨e1,e2,e3⟩:=g3 hH;obtain⟨ob',cap',rw',bi,capi,k1,k2,k3,⟨ri,k4,k5⟩,k6,k7⟩:=h e1.symm;rw[g1]at k1;cases k1;subst e2;obtain⟨r',q1,q2⟩:=Zup e3 k4;refine⟨ob,cap,_,bi,capi,g2,k2,k3,⟨r',q1,by omega⟩,k6,λe=>?_⟩;subst e;obtain⟨f1,f2⟩:=h4 hU
  cases f2
  exact k7 f1.symm
 cases L <;> cases L' <;> simp only[CE]at c <;> simp only[Zhk]at h ⊢
 all_goals exact key h c
theorem ZAa (h:Le U v γ l v' γ' l'):∀ {x:V} {m:Bool} {cs:List Value},x.ok U→RR v γ l m x cs→RR v' γ' l' m x cs:=by
 intro x
 induction x with
 | data t x=>intro m cs hk hr;cases m <;> first | exact Rep.mono _ h.v hr | exact hr
 | nilS=>intro m cs hk hr;cases m <;> first | exact hr | exact hr
 | own u =>
  intro m cs hk hr;cases m
  ·obtain⟨y,h1,hp,h2⟩:=hr;refine⟨y,h1,hp,λe' he=>?_⟩;obtain⟨e,h3,h4⟩:=h.l u e' hk he;exact ZVs (h2 e h3) h4
  ·exact hr
 | row u i hv cv t r =>
  intro m cs hk hr;cases m
  ·obtain⟨y,h1,hp,h2⟩:=hr;refine⟨y,h1,hp,λe' he=>?_⟩;obtain⟨e,h3,h4⟩:=h.l u e' hk.1 he;exact Zpy hk.2.1 hk.2.2 (h2 e h3) h4
  ·exact hr
 | ptr u off =>
  intro m cs hk hr;cases m
  ·obtain⟨y,h1,hp,h2⟩:=hr;refine⟨y,h1,hp,λe' he=>?_⟩;obtain⟨e,h3,h4⟩:=h.l u e' hk he;exact ZPu (h2 e h3) h4
  ·exact hr
 | el u i cv t x off =>
  intro m cs hk hr;cases m
  ·obtain⟨y,h1,hp,⟨c0,hc0⟩,h2⟩:=hr;refine⟨y,h1,hp,⟨c0,Rep.mono _ h.v hc0⟩,λe' he=>?_⟩;obtain⟨e,h3,h4⟩:=h.l u e' hk.1 he;exact ZBv hk.2 (h2 e h3) h4
  ·exact hr
 | rp u i hv cv t r =>
  intro m cs hk hr;cases m
  ·obtain⟨y,h1,hp,h2⟩:=hr;refine⟨y,h1,hp,λe' he=>?_⟩;obtain⟨e,h3,h4⟩:=h.l u e' hk.1 he;exact Zrw hk.2.2 (h2 e h3) h4
  ·exact hr
 | rel u i j hv cv t r x off =>
  intro m cs hk hr;cases m
  ·obtain⟨y,h1,hp,h2⟩:=hr;refine⟨y,h1,hp,λe' he=>?_⟩;obtain⟨e,h3,h4⟩:=h.l u e' hk.1 he;exact Zcy hk.2.1 hk.2.2 (h2 e h3) h4
  ·exact hr
 | vp t x off =>
  intro m cs hk hr;cases m
  ·obtain⟨b,o,c,h1,h2,h3⟩:=hr;exact⟨b,o,c,At.mono h.v h1,Rep.mono _ h.v h2,h3⟩
  ·exact hr
 | nl=>intro m cs hk hr;cases m <;> first | exact hr | exact hr
 | cons a b ia ib =>
  intro m cs hk hr;cases m
  ·obtain⟨c1,c2,h1,h2,h3⟩:=hr;exact⟨c1,c2,h1,ia hk.1 h2,ib hk.2 h3⟩
  ·obtain⟨c,xs,h1,h2,h3⟩:=hr;exact⟨c,xs,h1,ia hk.1 h2,ib hk.2 h3⟩
 | agg c ih=>intro m cs hk hr;cases m <;> first | exact ih (m:=false) hk hr | exact hr
 | tup c ih=>intro m cs hk hr;cases m <;> first | exact hr | exact hr
 | fn f c ih =>
  intro m cs hk hr;cases m
  ·obtain⟨vs,h1,h2⟩:=hr;exact⟨vs,ih (m:=true) hk h1,h2⟩
  ·exact hr
 | ifc ty c ih =>
  intro m cs hk hr;cases m
  ·obtain⟨vs,h1,h2⟩:=hr;exact⟨vs,ih (m:=false) hk h1,h2⟩
  ·exact hr
 | undef=>intro m cs hk hr;cases m <;> first | exact hr | exact hr
theorem ZVa (h:Le U v γ l v' γ' l') {x:V} {y:Value} (hk:x.ok U) (hr:RV v γ l x y):RV v' γ' l' x y:=by
 cases x <;> simp only[RV]at hr ⊢ <;> obtain⟨cs,h1,h2⟩:=hr <;> exact⟨cs,ZAa h hk h1,h2⟩
end
end Go.Eng
namespace Go.Eng
open Go.RowKit
def F2 {α β:Type} (R:α→β→Prop):List α→List β→Prop
 | [],[]=>True
 | a :: l,b :: m=>R a b∧F2 R l m
 | _,_=>False
theorem F2.imp {α β:Type} {R R':α→β→Prop}:∀ {l:List α} {m:List β},(∀ a ∈ l,∀ b,R a b→R' a b)→F2 R l m→F2 R' l m
 | [],[],_,_=>trivial
 | a :: l,b :: m,h,k=>⟨h a (by simp) b k.1,F2.imp (λx hx y=>h x (by simp[hx]) y) k.2⟩
 | [],_ :: _,_,k=>k.elim
 | _ :: _,[],_,k=>k.elim
def Zq {α:Type}:List (Option Nat×Nat)→List (List α)→List Value
 | p :: ps,r :: rs=>.slice (mkA p.1) r.length p.2 :: Zq ps rs
 | _,_=>[]
def Zra (v:Zb) (ty:TypeId) (t:T):List (Option Nat×Nat)→List (List t.den)→List Loc→Prop
 | [],[],es=>es=[]
 | p :: ps,r :: rs,es=>∃ cs es',t.rep.rels v cs r∧es = .own p.1 ty t.n r.length p.2 cs :: es'∧Zra v ty t ps rs es'
 | _,_,_=>False
def MidR {t:T} (rows:List (Option Nat×Nat)) (m:List (List t.den)) (es2:List Loc) (hs:List Value) (es3:List Loc):Mid→Prop
 | .hol i=>hs=Zq rows m∧∃ e1 c e2,es2=e1++c :: e2∧e1.length=i∧es3=e1++e2
 | .swp i j=>es3=es2∧i<m.length∧∃ h,(Zq rows m)[j]? = some h∧hs=(Zq rows m).set i h
def Zsa (v:Zb) (γ:Nat→Gh) (l:Lo) (e:En LV) (es:List Loc):Prop:=match e.x with
 | .box ty c=>∃ b cs,γ e.k = .box b∧RR v γ l false c cs∧cs.all plain=true∧es=[.box b ty cs]
 | .own ty t xs false=>∃ ob cap cs,γ e.k = .own ob cap∧t.rep.rels v cs xs∧es=[.own ob ty t.n xs.length cap cs]
 | .own _ t xs true=>∃ ob cap,γ e.k = .own ob cap∧(Zs t.rep).rel v [.slice (mkA ob) xs.length cap] xs∧es=[]
 | .mat ty ty2 t m _=>∃ ob cap rows es2,γ e.k = .mat ob cap rows∧Zra v ty2 t rows m es2∧es = .own ob ty 1 m.length cap (Zq rows m) :: es2
 | .mid ty ty2 t m _ s=>∃ ob cap rows es2 hs es3,γ e.k = .mat ob cap rows∧Zra v ty2 t rows m es2∧MidR rows m es2 hs es3 s∧es = .own ob ty 1 m.length cap hs :: es3
 | .mp m=>ZZe (γ e.k) m es
 | .it s p=>∃ b,γ e.k = .box b∧es=[.it b s p]
 | .lst ty t xs c=>∃ b cap cs cl,γ e.k = .own (some b) cap∧t.rep.rels v cs xs∧RR v γ l false c cl∧cl.all plain=true∧cl.length=t.n∧es=[.own (some b) ty t.n (xs.length+1) cap (cs++cl)]
def LV.ok (U X:Nat→Prop):LV→Prop
 | .box _ c=>c.ok U
 | .own _ _ _ _=>True
 | .mat _ _ _ _ hv=>X hv
 | .mid _ _ _ _ hv _=>X hv
 | .mp _=>True
 | .it _ _=>True
 | .lst _ _ _ c=>c.ok U
theorem LV.ok.mono {U U' X X':Nat→Prop} (h:∀ n,U n→U' n) (h':∀ n,X n→X' n) {L:LV} (k:L.ok U X):L.ok U' X':=by
 cases L
 ·exact V.ok.mono h k
 ·trivial
 ·exact h' _ k
 ·exact h' _ k
 ·trivial
 ·exact V.ok.mono h k
 ·trivial
structure RelX (N:Nat) (G:V→Value→Prop) (w0:Base) (v0:Zb) (U X:Nat→Prop) (f:Fr) (l:Lo) (a:Act) (w:World) (γ:Nat→Gh) (v:Zb) (ℓ:List Loc):Prop where
 st:St N w0 v0 [] ℓ v a w
 fr:∀ t e,lkE f t=some e→RV v γ l e.x (a.tmps.getD t undef)
 lr:∃ E,F2 (Zsa v γ l) l E∧ℓ.Perm E.flatten
 nd:(l.map En.k).Nodup
 uf:∀ t e,lkE f t=some e→e.x.ok U∧X e.st
 ul:∀ e ∈ l,X e.k∧X e.st∧e.x.ok U X
 gh:∀ x y,G x y→RV v γ l x y∧x.ok U
def Rel (N:Nat) (G:V→Value→Prop) (w0:Base) (v0:Zb) (U:Nat→Prop) (f:Fr) (l:Lo) (a:Act) (w:World):Prop:=∃ γ v ℓ,RelX N G w0 v0 U U f l a w γ v ℓ
theorem Zk {β:Type}:∀ {l:List (En β)} {t:Nat} {e:En β},lkE l t=some e→e ∈ l∧e.k=t
 | [],_,_,h=>by cases h
 | p :: r,t,e,h=>by
  simp only[lkE]at h
  cases hb:Nat.beq p.k t
  ·rw[hb]at h;have:=Zk h;exact⟨by simp[this.1],this.2⟩
  ·rw[hb]at h;cases h;exact⟨by simp,eQ hb⟩
theorem ZL {β:Type} {p:En β} {r:List (En β)} {t:Nat}:lkE (p :: r) t=if p.k=t then some p else lkE r t:=by
 simp only[lkE]
 cases hb:Nat.beq p.k t
 ·rw[iN (λe=>by rw[e]at hb;simp at hb)]
 ·rw[iP (eQ hb)]
theorem Zvk {β:Type} {p:En β} {r:List (En β)} {t:Nat}:era (p :: r) t=if p.k=t then r else p :: era r t:=by
 simp only[era]
 cases hb:Nat.beq p.k t
 ·rw[iN (λe=>by rw[e]at hb;simp at hb)]
 ·rw[iP (eQ hb)]
theorem Zsh {β:Type} {l:List (En β)} {t:Nat}:∀ e ∈ era l t,e ∈ l:=by
 induction l with
 | nil=>intro e h;cases h
 | cons p r ih =>
  intro e h;rw[Zvk]at h;split at h
  ·simp[h]
  ·rcases List.mem_cons.1 h with h | h
   ·simp[h]
   ·simp[ih e h]
theorem Zzb {β:Type} {l:List (En β)} {t:Nat} (h:(l.map En.k).Nodup):((era l t).map En.k).Nodup∧t ∉ (era l t).map En.k:=by
 induction l with
 | nil=>simp[era]
 | cons p r ih =>
  simp only[List.map_cons,List.nodup_cons]at h;rw[Zvk];split
  ·rename_i hp;subst hp;exact⟨h.2,h.1⟩
  ·rename_i hp;obtain⟨i1,i2⟩:=ih h.2;refine⟨?_,?_⟩
   ·simp only[List.map_cons,List.nodup_cons];refine⟨λhm=>h.1 ?_,i1⟩;obtain⟨e,he,hk⟩:=List.mem_map.1 hm;exact List.mem_map.2 ⟨e,Zsh e he,hk⟩
   ·simp only[List.map_cons,List.mem_cons,not_or];exact⟨λe=>hp e.symm,i2⟩
theorem ZHg {β:Type} {l:List (En β)} {t:Nat} (h:t ∉ l.map En.k):lkE l t=none:=by
 cases hl:lkE l t with
 | none=>rfl
 | some e=>have:=Zk hl;exact absurd (List.mem_map.2 ⟨e,this.1,this.2⟩) h
theorem Zof {β:Type} {l:List (En β)} {t:Nat} (h:lkE l t=none):t ∉ l.map En.k:=by
 induction l with
 | nil=>simp
 | cons p r ih =>
  rw[ZL]at h;split at h
  ·cases h
  ·rename_i hp;simp only[List.map_cons,List.mem_cons,not_or];exact⟨λe=>hp e.symm,ih h⟩
theorem ZVb {β:Type} {l:List (En β)} {t u:Nat} (h:(l.map En.k).Nodup):lkE (era l t) u=if t=u then none else lkE l u:=by
 split
 ·rename_i e;subst e;exact ZHg (Zzb h).2
 ·rename_i hne
  induction l with
  | nil=>rfl
  | cons p r ih =>
   simp only[List.map_cons,List.nodup_cons]at h;rw[Zvk];split
   ·rename_i hp;rw[ZL,iN (by omega)]
   ·rw[ZL,ZL];split
    ·rfl
    ·exact ih h.2
theorem Zzf {R:En LV→List Loc→Prop}:∀ {l:Lo} {E:List (List Loc)} {u:Nat} {e:En LV},F2 R l E→lkE l u=some e→∃ es E',R e es∧F2 R (era l u) E'∧E.flatten.Perm (es++E'.flatten)
 | [],_,_,_,_,h=>by cases h
 | p :: r,[],_,_,hf,_=>hf.elim
 | p :: r,es :: E,u,e,hf,h=>by
  rw[ZL]at h
  rw[Zvk]
  split at h
  ·rename_i hp;cases h;rw[iP hp];exact⟨es,E,hf.1,hf.2,List.Perm.refl _⟩
  ·rename_i hp
   rw[iN hp]
   obtain⟨es',E',h1,h2,h3⟩:=Zzf hf.2 h
   refine⟨es',es :: E',h1,⟨hf.1,h2⟩,?_⟩
   simp only[List.flatten_cons]
   exact ((List.Perm.append_left es h3).trans (by rw[← aAq,← aAq];exact List.Perm.append_right _ List.perm_append_comm))
theorem St.perm {K:Nat} {w0:Base} {v0:Zb} {σ:List (Nat×Value)} {ℓ ℓ':List Loc} {v:Zb} {a:Act} {w:World} (h:St K w0 v0 σ ℓ v a w) (p:ℓ.Perm ℓ'):St K w0 v0 σ ℓ' v a w :=
 ⟨h.size,h.dfr,h.fr,h.ext,h.vst,λe he=>h.loc e (p.mem_iff.2 he),(p.filterMap _).nodup_iff.1 h.nd⟩
section
variable {U:Nat→Prop} {v v':Zb} {γ γ':Nat→Gh} {l l':Lo}
theorem Zqc (h:v.le v') {ty:TypeId} {t:T}:∀ {rows:List (Option Nat×Nat)} {m:List (List t.den)} {es:List Loc},Zra v ty t rows m es→Zra v' ty t rows m es
 | [],[],_,k=>k
 | _ :: _,_ :: _,_,⟨cs,es',h1,h2,h3⟩=>⟨cs,es',ZR h h1,h2,Zqc h h3⟩
 | [],_ :: _,_,k=>k.elim
 | _ :: _,[],_,k=>k.elim
theorem ZNf {ty:TypeId} {t:T}:∀ {rows:List (Option Nat×Nat)} {m:List (List t.den)} {es:List Loc},Zra v ty t rows m es→rows.length=m.length
 | [],[],_,_=>rfl
 | _ :: _,_ :: _,_,⟨_,_,_,_,h3⟩=>by simp[ZNf h3]
 | [],_ :: _,_,k=>k.elim
 | _ :: _,[],_,k=>k.elim
theorem Z4f {X:Nat→Prop} (h:Le U v γ l v' γ' l') {e:En LV} {es:List Loc} (hk:e.x.ok U X) (hg:γ' e.k=γ e.k) (r:Zsa v γ l e es):Zsa v' γ' l' e es:=by
 obtain⟨k,st,x⟩:=e
 cases x with
 | box ty c =>
  obtain⟨b,cs,h1,h2,h3,h4⟩:=r;exact⟨b,cs,by rw[hg];exact h1,ZAa h hk h2,h3,h4⟩
 | own ty t xs fz =>
  cases fz with
  | false=>obtain⟨ob,cap,cs,h1,h2,h3⟩:=r;exact⟨ob,cap,cs,by rw[hg];exact h1,ZR h.v h2,h3⟩
  | true=>obtain⟨ob,cap,h1,h2,h3⟩:=r;exact⟨ob,cap,by rw[hg];exact h1,Rep.mono _ h.v h2,h3⟩
 | mat ty ty2 t m hv =>
  obtain⟨ob,cap,rows,es2,h1,h2,h3⟩:=r;exact⟨ob,cap,rows,es2,by rw[hg];exact h1,Zqc h.v h2,h3⟩
 | mid ty ty2 t m hv s =>
  obtain⟨ob,cap,rows,es2,hs,es3,h1,h2,h3,h4⟩:=r;exact⟨ob,cap,rows,es2,hs,es3,by rw[hg];exact h1,Zqc h.v h2,h3,h4⟩
 | mp m=>show ZZe (γ' k) m es;rw[hg];exact r
 | it s p=>obtain⟨b,h1,h2⟩:=r;exact⟨b,by rw[hg];exact h1,h2⟩
 | lst ty t xs c =>
  obtain⟨b,cap,cs,cl,h1,h2,h3,h4,h5,h6⟩:=r;exact⟨b,cap,cs,cl,by rw[hg];exact h1,ZR h.v h2,ZAa h hk h3,h4,h5,h6⟩
theorem Zkf {e:En LV} {es:List Loc} (r:Zsa v γ l e es) (hg:γ' e.k=γ e.k):CE U γ γ' e.k e.st e.st e.x e.x:=by
 obtain⟨k,st,x⟩:=e
 cases x with
 | box ty c=>exact hg
 | own ty t xs fz=>exact⟨hg,rfl,rfl,λ_=>⟨rfl,rfl⟩⟩
 | mat ty ty2 t m hv =>
  obtain⟨ob,cap,rows,es2,h1,_⟩:=r;exact⟨rfl,rfl,⟨ob,cap,rows,rows,h1,by rw[hg];exact h1,λ_=>⟨rfl,rfl,rfl⟩⟩,λ_=>⟨rfl,rfl⟩⟩
 | mid ty ty2 t m hv s =>
  obtain⟨ob,cap,rows,es2,hs,es3,h1,_⟩:=r;exact⟨rfl,rfl,⟨ob,cap,rows,rows,h1,by rw[hg];exact h1,λ_=>⟨rfl,rfl,rfl⟩⟩,λ_=>⟨rfl,rfl⟩⟩
 | mp m=>exact⟨hg,rfl⟩
 | it s p=>exact hg
 | lst ty t xs c=>exact⟨hg,rfl,rfl⟩
theorem ZCd {R:En LV→List Loc→Prop}:∀ {l:Lo} {E:List (List Loc)} {e:En LV},F2 R l E→e ∈ l→∃ es,R e es
 | [],_,_,_,h=>by cases h
 | _ :: _,[],_,hf,_=>hf.elim
 | p :: r,es :: E,e,hf,h=>by
  rcases List.mem_cons.1 h with rfl | h
  ·exact⟨es,hf.1⟩
  ·exact ZCd hf.2 h
theorem Le.refl {E:List (List Loc)} (h:F2 (Zsa v γ l) l E) (hv:v.le v'):Le U v γ l v' γ l :=
 ⟨hv,λu e' _ he=>⟨e',he,by
  obtain⟨hm,hk⟩:=Zk he
  obtain⟨es,hr⟩:=ZCd h hm
  have:=Zkf (U:=U) hr (rfl:γ e'.k=γ e'.k)
  rw[hk]at this;exact this⟩⟩
end
section
variable {N:Nat} {G:V→Value→Prop} {w0:Base} {v0:Zb} {U X:Nat→Prop} {f:Fr} {l:Lo} {a:Act} {w:World} {γ:Nat→Gh} {v:Zb} {ℓ:List Loc}
theorem RelX.upd (h:RelX N G w0 v0 U X f l a w γ v ℓ) {u n:Nat} {L':LV} {γ':Nat→Gh} {v':Zb} {w':World} {ℓ':List Loc} {es':List Loc} {E':List (List Loc)}
  (hn:X n) (huU:X u) (hE:F2 (Zsa v γ l) (era l u) E') (hst:St N w0 v0 [] ℓ' v' a w') (hle:Le U v γ l v' γ' (⟨u,n,L'⟩ :: era l u)) (hg:∀ k,k≠u→γ' k=γ k)
  (hl:Zsa v' γ' (⟨u,n,L'⟩ :: era l u) ⟨u,n,L'⟩ es') (hp:ℓ'.Perm (es'++E'.flatten)) (hok:L'.ok U X):RelX N G w0 v0 U X f (⟨u,n,L'⟩ :: era l u) a w' γ' v' ℓ':=by
 obtain⟨n1,n2⟩:=Zzb (t:=u) h.nd;refine⟨hst,λt e he=>ZVa hle (h.uf t e he).1 (h.fr t e he),⟨es' :: E',⟨hl,hE.imp λe he es hr=>?_⟩,hp⟩,?_,h.uf,λe he=>?_,λx y hg=>⟨ZVa hle (h.gh x y hg).2 (h.gh x y hg).1,(h.gh x y hg).2⟩⟩
 ·refine Z4f hle (h.ul e (Zsh e he)).2.2 (hg _ λhk=>n2 ?_) hr;exact List.mem_map.2 ⟨e,he,hk⟩
 ·simp only[List.map_cons,List.nodup_cons];exact⟨n2,n1⟩
 ·rcases List.mem_cons.1 he with rfl | he
  ·exact⟨huU,hn,hok⟩
  ·exact h.ul e (Zsh e he)
theorem RelX.new (h:RelX N G w0 v0 U X f l a w γ v ℓ) {u n:Nat} {L':LV} {γ':Nat→Gh} {v':Zb} {w':World} {ℓ':List Loc} {es':List Loc} {E':List (List Loc)}
  (hn:X n) (huU:X u) (hfresh:¬ U u) (hnew:lkE l u=none) (hE:F2 (Zsa v γ l) l E') (hst:St N w0 v0 [] ℓ' v' a w') (hv:v.le v') (hg:∀ k,k≠u→γ' k=γ k)
  (hl:Zsa v' γ' (⟨u,n,L'⟩ :: l) ⟨u,n,L'⟩ es') (hp:ℓ'.Perm (es'++E'.flatten)) (hok:L'.ok U X):RelX N G w0 v0 U X f (⟨u,n,L'⟩ :: l) a w' γ' v' ℓ':=by
 have hkey:∀ e ∈ l,e.k≠u:=λe he hk=>Zof hnew (List.mem_map.2 ⟨e,he,hk⟩);have hle:Le U v γ l v' γ' (⟨u,n,L'⟩ :: l):=⟨hv,λk e' hk he=>by
  have hne:u≠k:=λe=>hfresh (e ▸ hk);rw[ZL,iN hne]at he;refine⟨e',he,?_⟩;obtain⟨hm,hk'⟩:=Zk he;obtain⟨es,hr⟩:=ZCd hE hm;have:=Zkf (U:=U) (γ':=γ') hr (hg _ (by rw[hk'];exact λe=>hne e.symm));rw[hk']at this;exact this⟩
 refine⟨hst,λt e he=>ZVa hle (h.uf t e he).1 (h.fr t e he),⟨es' :: E',⟨hl,hE.imp λe he es hr=>?_⟩,hp⟩,?_,h.uf,λe he=>?_,λx y hg=>⟨ZVa hle (h.gh x y hg).2 (h.gh x y hg).1,(h.gh x y hg).2⟩⟩
 ·exact Z4f hle (h.ul e he).2.2 (hg _ (hkey e he)) hr
 ·simp only[List.map_cons,List.nodup_cons];refine⟨λhm=>?_,h.nd⟩;obtain⟨e,he,hk⟩:=List.mem_map.1 hm;exact hkey e he hk
 ·rcases List.mem_cons.1 he with rfl | he
  ·exact⟨huU,hn,hok⟩
  ·exact h.ul e he
theorem Le.era (h:RelX N G w0 v0 U X f l a w γ v ℓ) (u:Nat):Le U v γ l v γ (era l u):=by
 obtain⟨E,hE,_⟩:=h.lr;refine⟨Zb.le_refl _,λk e' _ he=>?_⟩;rw[ZVb h.nd]at he;split at he
 ·cases he
 ·refine⟨e',he,?_⟩;obtain⟨hm,hk'⟩:=Zk he;obtain⟨es,hr⟩:=ZCd hE hm;have:=Zkf (U:=U) (γ':=γ) hr rfl;rw[hk']at this;exact this
theorem RelX.del (h:RelX N G w0 v0 U X f l a w γ v ℓ) {u:Nat} {e:En LV} (hu:lkE l u=some e):∃ es E',Zsa v γ l e es∧F2 (Zsa v γ l) (era l u) E'∧F2 (Zsa v γ (era l u)) (era l u) E'∧ℓ.Perm (es++E'.flatten)∧RelX N G w0 v0 U X f (era l u) a w γ v E'.flatten:=by
 obtain⟨E,hE,hp⟩:=h.lr;obtain⟨es,E',h1,h2,h3⟩:=Zzf hE hu;have hle:=Le.era h u;have h4:F2 (Zsa v γ (era l u)) (era l u) E':=h2.imp λe he es hr=>Z4f hle (h.ul e (Zsh e he)).2.2 rfl hr;exact⟨es,E',h1,h2,h4,hp.trans h3,(h.st.perm (hp.trans h3)).drop (List.sublist_append_right _ _),λt e he=>ZVa hle (h.uf t e he).1 (h.fr t e he),⟨E',h4,List.Perm.refl _⟩,(Zzb h.nd).1,h.uf,λe he=>h.ul e (Zsh e he),λx y hg=>⟨ZVa hle (h.gh x y hg).2 (h.gh x y hg).1,(h.gh x y hg).2⟩⟩
theorem RelX.put (h:RelX N G w0 v0 U X f l a w γ v ℓ) {d n:Nat} {x:V} {y:Value} (hd:d<N) (hr:RV v γ l x y) (hx:x.ok U) (hn:X n):RelX N G w0 v0 U X (⟨d,n,x⟩ :: f) l (a.put (some d) y) w γ v ℓ:=by
 have hs:=h.st.put y hd;refine⟨⟨hs.size,hs.dfr,λt x e=>(by cases e),hs.ext,hs.vst,hs.loc,hs.nd⟩,λt e he=>?_,h.lr,h.nd,λt e he=>?_,h.ul,h.gh⟩
 ·rw[ZL]at he;split at he
  ·rename_i hdt
   cases he
   have hdt':d=t:=hdt;subst hdt';have:=hs.fr d y (Z4e rfl);rw[this];exact hr
  ·rename_i hdt;have:=h.fr t e he;have e2:(a.put (some d) y).tmps.getD t undef=a.tmps.getD t undef:=by
    have hdt':¬ d=t:=hdt;simp[Act.put,Array.getElem?_setIfInBounds_ne hdt']
   rw[e2];exact this
 ·rw[ZL]at he;split at he
  ·cases he;exact⟨hx,hn⟩
  ·exact h.uf t e he
theorem RelX.mono {U' X':Nat→Prop} (h:RelX N G w0 v0 U X f l a w γ v ℓ) (hU:∀ k,U k→U' k) (hX:∀ k,X k→X' k):RelX N G w0 v0 U' X' f l a w γ v ℓ :=
 ⟨h.st,h.fr,h.lr,h.nd,λt e he=>⟨V.ok.mono hU (h.uf t e he).1,hX _ (h.uf t e he).2⟩,λe he=>⟨hX _ (h.ul e he).1,hX _ (h.ul e he).2.1,LV.ok.mono hU hX (h.ul e he).2.2⟩,λx y hg=>⟨(h.gh x y hg).1,V.ok.mono hU (h.gh x y hg).2⟩⟩
end
end Go.Eng
namespace Go.Eng
open Go.RowKit
theorem leaf_n:∀ i,(ZCm i).n=(T.leaf i).n
 | 0 | 1 | 2 | 3 | 4 | 5 | 6 | 7 | _+8=>rfl
theorem Zsz:∀ i,(ZCm i).agg=(T.leaf i).agg
 | 0 | 1 | 2 | 3 | 4 | 5 | 6 | 7 | _+8=>rfl
theorem ZK:∀ t:T,t.rep.n=t.n
 | .int _ | .bool | .flt _ | .str | .slice _ | .ptr _=>rfl
 | .one a=>ZK a
 | .pair a b=>by show a.rep.n+b.rep.n=a.n+b.n;rw[ZK a,ZK b]
 | .leaf i=>leaf_n i
theorem Zvq:∀ t:T,t.rep.agg=t.agg
 | .int _ | .bool | .flt _ | .str | .slice _ | .one _ | .pair _ _ | .ptr _=>rfl
 | .leaf i=>Zsz i
theorem Zjg (t:T) (x:t.den) (cs:List Value):(V.data t x).val cs=t.rep.val cs:=by
 unfold V.val Rep.val;rw[Zvq];rfl
section
variable {v:Zb} {γ:Nat→Gh} {l:Lo} {U:Nat→Prop}
theorem Z1c:∀ {x:V} {cs:List Value},RR v γ l false x cs→cs.length=x.size:=by
 intro x
 induction x with
 | data t x=>intro cs h;exact (Rep.len _ h).trans (ZK t)
 | nilS=>intro cs h;rw[show cs=_ from h];rfl
 | own u=>intro cs h;obtain⟨y,rfl,_⟩:=h;rfl
 | row u i hv cv t r=>intro cs h;obtain⟨y,rfl,_⟩:=h;rfl
 | ptr u off=>intro cs h;obtain⟨y,rfl,_⟩:=h;rfl
 | el u i cv t x off=>intro cs h;obtain⟨y,rfl,_⟩:=h;rfl
 | rp u i hv cv t r=>intro cs h;obtain⟨y,rfl,_⟩:=h;rfl
 | rel u i j hv cv t r x off=>intro cs h;obtain⟨y,rfl,_⟩:=h;rfl
 | vp t x off=>intro cs h;obtain⟨b,o,c,_,_,rfl⟩:=h;rfl
 | nl=>intro cs h;rw[show cs=_ from h];rfl
 | cons a b ia ib=>intro cs h;obtain⟨c1,c2,rfl,h1,h2⟩:=h;rw[lA,ia h1,ib h2];rfl
 | agg c ih=>intro cs h;exact ih h
 | tup c ih=>intro cs h;exact h.elim
 | fn f c ih=>intro cs h;obtain⟨vs,_,rfl⟩:=h;rfl
 | ifc ty c ih=>intro cs h;obtain⟨vs,_,rfl⟩:=h;rfl
 | undef=>intro cs h;rw[show cs=_ from h];rfl
theorem Zrx:∀ {x:V} {cs:List Value},x.plain=true→RR v γ l false x cs→cs.all plain=true:=by
 intro x
 induction x with
 | data t x=>intro cs _ h;exact Rep.flat _ h
 | nilS=>intro cs _ h;rw[show cs=_ from h];rfl
 | own u=>intro cs _ h;obtain⟨y,rfl,hp,_⟩:=h;simp[hp]
 | row u i hv cv t r=>intro cs _ h;obtain⟨y,rfl,hp,_⟩:=h;simp[hp]
 | ptr u off=>intro cs _ h;obtain⟨y,rfl,hp,_⟩:=h;simp[hp]
 | el u i cv t x off=>intro cs _ h;obtain⟨y,rfl,hp,_⟩:=h;simp[hp]
 | rp u i hv cv t r=>intro cs _ h;obtain⟨y,rfl,hp,_⟩:=h;simp[hp]
 | rel u i j hv cv t r x off=>intro cs _ h;obtain⟨y,rfl,hp,_⟩:=h;simp[hp]
 | vp t x off=>intro cs _ h;obtain⟨b,o,c,_,_,rfl⟩:=h;rfl
 | nl=>intro cs _ h;rw[show cs=_ from h];rfl
 | cons a b ia ib =>
  intro cs hp h;obtain⟨c1,c2,rfl,h1,h2⟩:=h;simp only[V.plain]at hp
  cases ha:a.plain
  ·rw[ha]at hp;cases hp
  ·rw[ha]at hp;rw[List.all_append,ia ha h1,ib hp h2];rfl
 | agg c ih=>intro cs hp h;exact ih hp h
 | tup c ih=>intro cs _ h;exact h.elim
 | fn f c ih=>intro cs _ h;obtain⟨vs,_,rfl⟩:=h;rfl
 | ifc ty c ih=>intro cs _ h;obtain⟨vs,_,rfl⟩:=h;rfl
 | undef=>intro cs hp _;cases hp
theorem ZDi {a b:Bool} (h:eqB a b=true):a=b:=by cases a <;> cases b <;> first | rfl | cases h
theorem Z0g {x:V} {cs:List Value} (h:RR v γ l false x cs) (hs:x.size=1) (ha:x.isAgg=false):cs=[x.val cs]:=by
 have h1:=Z1c h;rw[hs]at h1;obtain⟨y,rfl⟩:=List.length_eq_one_iff.1 h1;unfold V.val;rw[ha];rfl
theorem ZEu:∀ {t:T} {x:t.den} {cs:List Value},t.rep.rel v cs x→RR v γ l false (Zah t x) cs∧(Zah t x).ok U:=by
 intro t
 induction t with
 | pair a b ia ib =>
  intro x cs h;obtain⟨c1,c2,rfl,h1,h2⟩:=h;exact⟨⟨c1,c2,rfl,h1,(ib h2).1⟩,trivial,(ib (x:=x.2) h2).2⟩
 | _=>intro x cs h;exact⟨⟨cs,[],by simp,h,rfl⟩,trivial,trivial⟩
theorem ZAn {t:T} {x:t.den} {c:V} {cs:List Value} (h:Zue t x=some c) (hr:t.rep.rel v cs x):RR v γ l false c cs∧c.ok U:=by
 unfold Zue at h;split at h
 ·cases h;exact ZEu hr
 ·cases h;exact⟨⟨cs,[],by simp,hr,rfl⟩,trivial,trivial⟩
 ·rename_i i
  cases h
  have hr':Zkb.rel v cs i:=hr;obtain⟨s,q,n,k,rfl⟩:=Z3f hr';obtain⟨rfl,h2⟩:=Zzs hr';exact⟨⟨[_],[_],rfl,rfl,[_],[],rfl,h2,rfl⟩,trivial,trivial,trivial⟩
 ·rename_i q
  cases h
  have hr':ZUa.rel v cs q:=hr;obtain⟨s,q1,n,k,q2,n2,k2,rfl⟩:=Z0q hr';obtain⟨h1,h2⟩:=Z0y hr';exact⟨⟨[_,_],[_],rfl,h1,[_],[],rfl,h2,rfl⟩,trivial,trivial,trivial⟩
 ·rename_i q
  cases h
  have hr':rQ.rel v cs q:=hr;obtain⟨s,q1,n,k,q2,n2,k2,rfl⟩:=Z5v hr';obtain⟨rfl,h1,h2⟩:=rQ_open hr';exact⟨⟨[_],[_,_],rfl,rfl,[_],[_],rfl,h1,[_],[],rfl,h2,rfl⟩,trivial,trivial,trivial,trivial⟩
 ·cases h
theorem Zqq {t:T} {x:t.den} {c:V} {cs:List Value} (h:Zac t x=some c) (hr:t.rep.rel v cs x):RR v γ l false c cs∧c.ok U:=by
 unfold Zac at h;split at h
 ·cases h
  obtain⟨c1,c2,rfl,h1,h2⟩:=hr;exact⟨⟨c1,c2,rfl,h1,c2,[],by simp,h2,rfl⟩,trivial,trivial,trivial⟩
 ·exact ZAn h hr
theorem Zov {t:T} {x:t.den} {c:V} (h:Zac t x=some c):t.agg=true:=by
 unfold Zac at h;split at h
 ·rfl
 ·unfold Zue at h;split at h <;> first | rfl | cases h
theorem ZMc:∀ (g:Nat) {x z:V} {off n:Nat} {ag:Bool} {cs:List Value},Zga g x off n ag=some z→RR v γ l false x cs→x.ok U →
  RR v γ l false z ((cs.drop off).take n)∧z.ok U∧z.size=n∧z.isAgg=ag∧off+n≤cs.length
 | 0,_,_,_,_,_,_,h,_,_=>by cases h
 | g+1,x,z,off,n,ag,cs,h,hr,hk=>by
  have whole:∀ {y:V},(match Nat.beq off 0,Nat.beq y.size n,eqB y.isAgg ag with
    | true,true,true=>some y
    | _,_,_=>match y with
     | .agg c=>Zga g c off n ag
     | .data t x=>match Zac t x with
      | some c=>Zga g c off n ag
      | none=>none
     | _=>none)=some z→RR v γ l false y cs→y.ok U→RR v γ l false z ((cs.drop off).take n)∧z.ok U∧z.size=n∧z.isAgg=ag∧off+n≤cs.length:=by
   intro y hy hr hk;split at hy
   ·rename_i h1 h2 h3
    cases hy
    have h1:=eQ h1;have h2:=eQ h2;have hl:=Z1c hr;subst h1;refine⟨?_,hk,h2,ZDi h3,by omega⟩;rw[List.drop_zero,List.take_of_length_le (by omega)];exact hr
   ·split at hy
    ·exact ZMc g hy hr hk
    ·split at hy
     ·rename_i he;obtain⟨h1,h2⟩:=Zqq (U:=U) he hr;exact ZMc g hy h1 h2
     ·cases hy
    ·cases hy
  cases x with
  | nl=>simp only[Zga]at h;cases h
  | cons a b =>
   simp only[Zga]at h;obtain⟨c1,c2,rfl,h1,h2⟩:=hr;have l1:=Z1c h1;split at h
   ·rename_i hb;have hb:=lB hb;obtain⟨k1,k2,k3,k4,k5⟩:=ZMc g h h1 hk.1;refine⟨?_,k2,k3,k4,by rw[lA];omega⟩;rw[List.drop_append_of_le_length (by omega),List.take_append_of_le_length (by rw[List.length_drop];omega)];exact k1
   ·split at h
    ·rename_i hb;have hb:=lB hb;obtain⟨k1,k2,k3,k4,k5⟩:=ZMc g h h2 hk.2;refine⟨?_,k2,k3,k4,by rw[lA];omega⟩;rw[List.drop_append,List.drop_of_length_le (by omega),List.nil_append,l1];exact k1
    ·cases h
  | data t x=>exact whole (y:=.data t x) h hr hk
  | agg c=>exact whole (y:=.agg c) h hr hk
  | nilS=>exact whole (y:=.nilS) h hr hk
  | own u=>exact whole (y:=.own u) h hr hk
  | row u i hv cv t r=>exact whole (y:=.row u i hv cv t r) h hr hk
  | ptr u o=>exact whole (y:=.ptr u o) h hr hk
  | el u i cv t x o=>exact whole (y:=.el u i cv t x o) h hr hk
  | rp u i hv cv t r=>exact whole (y:=.rp u i hv cv t r) h hr hk
  | rel u i j hv cv t r x o=>exact whole (y:=.rel u i j hv cv t r x o) h hr hk
  | vp t x o=>exact whole (y:=.vp t x o) h hr hk
  | tup c=>exact whole (y:=.tup c) h hr hk
  | fn f c=>exact whole (y:=.fn f c) h hr hk
  | ifc f c=>exact whole (y:=.ifc f c) h hr hk
  | undef=>exact whole (y:=.undef) h hr hk
theorem Z1d:∀ (g:Nat) {x z x':V} {off:Nat} {cs cz:List Value},Z2a g x off z=some x'→RR v γ l false x cs→RR v γ l false z cz→x.ok U→z.ok U →
  RR v γ l false x' (cs.take off++cz++cs.drop (off+cz.length))∧x'.ok U∧off+cz.length≤cs.length∧x'.isAgg=x.isAgg
 | 0,_,_,_,_,_,_,h,_,_,_,_=>by cases h
 | g+1,x,z,x',off,cs,cz,h,hr,hz,hk,hkz=>by
  have lz:=Z1c hz
  have whole:∀ {y:V},y.isAgg=x.isAgg→(match Nat.beq off 0,Nat.beq y.size z.size,eqB y.isAgg z.isAgg with
    | true,true,true=>some z
    | _,_,_=>match y with
     | .agg c=>match Z2a g c off z with
      | some c'=>some (.agg c')
      | none=>none
     | .data t x=>match Zac t x with
      | some c=>match Z2a g c off z with
       | some c'=>some (.agg c')
       | none=>none
      | none=>none
     | _=>none)=some x'→(∀ t x,y = .data t x→∀ c,Zac t x=some c→t.agg=true)→RR v γ l false y cs→y.ok U→RR v γ l false x' (cs.take off++cz++cs.drop (off+cz.length))∧x'.ok U∧off+cz.length≤cs.length∧x'.isAgg=x.isAgg:=by
   intro y hya hy hex hr hk;split at hy
   ·rename_i h1 h2 h3
    cases hy
    have h1:=eQ h1;have h2:=eQ h2;have hl:=Z1c hr;subst h1;refine⟨?_,hkz,by omega,(ZDi h3).symm.trans hya⟩;rw[List.take_zero,List.nil_append,List.drop_of_length_le (by omega),List.append_nil];exact hz
   ·split at hy
    ·split at hy
     ·rename_i he
      cases hy
      obtain⟨k1,k2,k3,k4⟩:=Z1d g he hr hz hk hkz;exact⟨k1,k2,k3,hya⟩
     ·cases hy
    ·rename_i t xx _;split at hy
     ·rename_i c hc;split at hy
      ·rename_i he
       cases hy
       obtain⟨h1,h2⟩:=Zqq (U:=U) hc hr;obtain⟨k1,k2,k3,k4⟩:=Z1d g he h1 hz h2 hkz;exact⟨k1,k2,k3,(hex t xx rfl _ hc).symm.trans hya⟩
      ·cases hy
     ·cases hy
    ·cases hy
  have noex:∀ {y:V},(∀ t x,y ≠ .data t x)→(∀ t x,y = .data t x→∀ c,Zac t x=some c→t.agg=true):=λh t x e=>absurd e (h t x)
  cases x with
  | nl=>simp only[Z2a]at h;cases h
  | cons a b =>
   simp only[Z2a]at h;obtain⟨c1,c2,rfl,h1,h2⟩:=hr;have l1:=Z1c h1;split at h
   ·rename_i hb;have hb:=lB hb;split at h
    ·rename_i he
     cases h
     obtain⟨k1,k2,k3,k4⟩:=Z1d g he h1 hz hk.1 hkz;refine⟨⟨_,c2,?_,k1,h2⟩,⟨k2,hk.2⟩,by rw[lA];omega,rfl⟩;rw[List.take_append_of_le_length (by omega),List.drop_append_of_le_length (by omega)];simp
    ·cases h
   ·split at h
    ·rename_i hb;have hb:=lB hb;split at h
     ·rename_i he
      cases h
      obtain⟨k1,k2,k3,k4⟩:=Z1d g he h2 hz hk.2 hkz;refine⟨⟨c1,_,?_,h1,k1⟩,⟨hk.1,k2⟩,by rw[lA];omega,rfl⟩;rw[List.take_append,List.take_of_length_le (by omega),List.drop_append,List.drop_of_length_le (by omega),l1];rw[show off+cz.length-a.size=off-a.size+cz.length by omega];simp
     ·cases h
    ·cases h
  | data t xx=>exact whole (y:=.data t xx) rfl h (λt x e c hc=>by
    cases e
    exact Zov hc) hr hk
  | agg c=>exact whole (y:=.agg c) rfl h (noex λ_ _ e=>by cases e) hr hk
  | nilS=>exact whole (y:=.nilS) rfl h (noex λ_ _ e=>by cases e) hr hk
  | own u=>exact whole (y:=.own u) rfl h (noex λ_ _ e=>by cases e) hr hk
  | row u i hv cv t r=>exact whole (y:=.row u i hv cv t r) rfl h (noex λ_ _ e=>by cases e) hr hk
  | ptr u o=>exact whole (y:=.ptr u o) rfl h (noex λ_ _ e=>by cases e) hr hk
  | el u i cv t x o=>exact whole (y:=.el u i cv t x o) rfl h (noex λ_ _ e=>by cases e) hr hk
  | rp u i hv cv t r=>exact whole (y:=.rp u i hv cv t r) rfl h (noex λ_ _ e=>by cases e) hr hk
  | rel u i j hv cv t r x o=>exact whole (y:=.rel u i j hv cv t r x o) rfl h (noex λ_ _ e=>by cases e) hr hk
  | vp t x o=>exact whole (y:=.vp t x o) rfl h (noex λ_ _ e=>by cases e) hr hk
  | tup c=>exact whole (y:=.tup c) rfl h (noex λ_ _ e=>by cases e) hr hk
  | fn f c=>exact whole (y:=.fn f c) rfl h (noex λ_ _ e=>by cases e) hr hk
  | ifc f c=>exact whole (y:=.ifc f c) rfl h (noex λ_ _ e=>by cases e) hr hk
  | undef=>exact whole (y:=.undef) rfl h (noex λ_ _ e=>by cases e) hr hk
end
end Go.Eng
namespace Go.Eng
open Go.RowKit
def Zj {ρ:Type} (n:Nat):Ev ρ→Fr→Lo→(ρ→Fr→Lo→Prop)→Prop
 | .fail,_,_,_=>False
 | .done r,f,l,K=>K r f l
 | .rdS t k,f,l,K=>∃ e,lkE f t=some e∧Zj n (k e.x) f l K
 | .rdL u k,f,l,K=>∃ e,lkE l u=some e∧Zj n (k e.st e.x) f l K
 | .wrS t x e,f,l,K=>Zj n e (⟨t,n,x⟩ :: f) l K
 | .wrL u L e,f,l,K=>Zj n e f (⟨u,n,L⟩ :: era l u) K
 | .new u L e,f,l,K=>lkE l u=none∧Zj n e f (⟨u,n,L⟩ :: l) K
 | .del u e,f,l,K=>Zj n e f (era l u) K
 | .bind x k,f,l,K=>∃ y,x=some y∧Zj n (k y) f l K
 | .test t e1 e2,f,l,K=>∃ s b,lkE f t=some ⟨t,s,.data .bool b⟩∧(b=true→Zj n e1 (⟨t,s,.data .bool b⟩ :: f) l K)∧(b=false→Zj n e2 (⟨t,s,.data .bool b⟩ :: f) l K)
 | .alt b e1 e2,f,l,K=>(b=true→Zj n e1 f l K)∧(b=false→Zj n e2 f l K)
theorem Z6c {ρ α:Type} {n:Nat} {r:α}:∀ {e:Ev ρ} {f:Fr} {l:Lo} {K:ρ→Fr→Lo→Option α},ZIa n e f l K=some r→Zj n e f l λx f' l'=>K x f' l'=some r:=by
 intro e
 induction e with
 | fail=>intro f l K h;cases h
 | done x=>intro f l K h;exact h
 | rdS t k ih =>
  intro f l K h;simp only[ZIa]at h;split at h
  ·rename_i x hx;exact⟨x,hx,ih _ h⟩
  ·cases h
 | rdL u k ih =>
  intro f l K h;simp only[ZIa]at h;split at h
  ·rename_i x hx;exact⟨x,hx,ih _ _ h⟩
  ·cases h
 | wrS t x e ih=>intro f l K h;exact ih h
 | wrL u L e ih=>intro f l K h;exact ih h
 | new u L e ih =>
  intro f l K h;simp only[ZIa]at h;split at h
  ·rename_i hx;exact⟨hx,ih h⟩
  ·cases h
 | del u e ih=>intro f l K h;exact ih h
 | bind x k ih =>
  intro f l K h;obtain⟨y,hy,h2⟩:=ZG h;exact⟨y,hy,ih _ h2⟩
 | test t e1 e2 i1 i2 =>
  intro f l K h;simp only[ZIa]at h;split at h
  ·rename_i k s b hx;obtain⟨_,hk⟩:=Zk hx;have hk:k=t:=hk;subst hk;refine⟨s,b,hx,λe=>?_,λe=>?_⟩
   ·subst e;exact i1 h
   ·subst e;exact i2 h
  ·cases h
 | alt b e1 e2 i1 i2=>intro f l K h;exact⟨λe=>by subst e;exact i1 h,λe=>by subst e;exact i2 h⟩
theorem Zj.mono {ρ:Type} {n:Nat}:∀ {e:Ev ρ} {f:Fr} {l:Lo} {K K':ρ→Fr→Lo→Prop},Zj n e f l K→(∀ r f l,K r f l→K' r f l)→Zj n e f l K':=by
 intro e
 induction e with
 | fail=>intro f l K K' h k;exact h
 | done x=>intro f l K K' h k;exact k _ _ _ h
 | rdS t q ih=>intro f l K K' h k;obtain⟨x,hx,h⟩:=h;exact⟨x,hx,ih _ h k⟩
 | rdL u q ih=>intro f l K K' h k;obtain⟨x,hx,h⟩:=h;exact⟨x,hx,ih _ _ h k⟩
 | wrS t x e ih=>intro f l K K' h k;exact ih h k
 | wrL u L e ih=>intro f l K K' h k;exact ih h k
 | new u L e ih=>intro f l K K' h k;exact⟨h.1,ih h.2 k⟩
 | del u e ih=>intro f l K K' h k;exact ih h k
 | bind x q ih=>intro f l K K' h k;obtain⟨x,hx,h⟩:=h;exact⟨x,hx,ih _ h k⟩
 | test t e1 e2 i1 i2 =>
  intro f l K K' h k;obtain⟨s,b,h1,h2,h3⟩:=h;exact⟨s,b,h1,λe=>i1 (h2 e) k,λe=>i2 (h3 e) k⟩
 | alt b e1 e2 i1 i2=>intro f l K K' h k;exact⟨λe=>i1 (h.1 e) k,λe=>i2 (h.2 e) k⟩
section
variable {N:Nat} {G:V→Value→Prop} {w0:Base} {v0:Zb} {U X:Nat→Prop} {f:Fr} {l:Lo} {a:Act} {w:World} {γ:Nat→Gh} {v:Zb} {ℓ:List Loc}
theorem Le.upd (h:RelX N G w0 v0 U X f l a w γ v ℓ) {u n:Nat} {e:En LV} {L':LV} {γ':Nat→Gh} {v':Zb} (hu:lkE l u=some e) (hv:v.le v') (hg:∀ k,k≠u→γ' k=γ k) (hc:CE U γ γ' u e.st n e.x L') :
  Le U v γ l v' γ' (⟨u,n,L'⟩ :: Go.Eng.era l u):=by
 obtain⟨E,hE,_⟩:=h.lr;refine⟨hv,λk e' _ he=>?_⟩;rw[ZL]at he;split at he
 ·rename_i hk
  cases he
  have hk:u=k:=hk;subst hk;exact⟨e,hu,hc⟩
 ·rename_i hk;have hk:¬ u=k:=hk;rw[ZVb h.nd,iN hk]at he;refine⟨e',he,?_⟩;obtain⟨hm,hk'⟩:=Zk he;obtain⟨es,hr⟩:=ZCd hE hm;have:=Zkf (U:=U) (γ':=γ') hr (hg _ (by rw[hk'];exact λe=>hk e.symm));rw[hk']at this;exact this
theorem CE.tr {γ1 γ2 γ3:Nat→Gh} {u s1 s2 s3:Nat} {x1 x2 x3:LV} (c1:CE U γ1 γ2 u s1 s2 x1 x2) (c2:CE U γ2 γ3 u s2 s3 x2 x3):CE U γ1 γ3 u s1 s3 x1 x3:=by
 have mm:∀ {t1 t2 t3:T} {m1:List (List t1.den)} {m2:List (List t2.den)} {m3:List (List t3.den)} {hv1 hv2 hv3:Nat},CEm U γ1 γ2 u s1 s2 t1 m1 hv1 t2 m2 hv2→CEm U γ2 γ3 u s2 s3 t2 m2 hv2 t3 m3 hv3→CEm U γ1 γ3 u s1 s3 t1 m1 hv1 t3 m3 hv3:=by
  rintro t1 t2 t3 m1 m2 m3 hv1 hv2 hv3 ⟨a1,a2,⟨ob,cap,rows,rows',a3,a4,a5⟩,a6⟩ ⟨b1,b2,⟨ob2,cap2,rows2,rows3,b3,b4,b5⟩,b6⟩;rw[a4]at b3;cases b3;refine⟨b1.trans a1,by omega,⟨_,_,rows,rows3,a3,b4,λhu=>?_⟩,λhu=>?_⟩
  ·obtain⟨e1,e2,e3⟩:=b5 hu;obtain⟨g1,g2,g3⟩:=a5 (by rw[← e1];exact hu);exact⟨e1.trans g1,e2.trans g2,e3.trans g3⟩
  ·obtain⟨e1,e2⟩:=b6 hu;have:=a6 (by rw[← e1];exact hu);exact⟨e1.trans this.1,e2.trans this.2⟩
 have mo:∀ {t1 t2 t3:T} {m1:List (List t1.den)} {m2:List (List t2.den)} {xs:List t3.den} {hv1 hv2:Nat},CEm U γ1 γ2 u s1 s2 t1 m1 hv1 t2 m2 hv2→(∃ ob cap rows,γ2 u = .mat ob cap rows∧γ3 u = .own ob cap∧xs.length=m2.length)→∃ ob cap rows,γ1 u = .mat ob cap rows∧γ3 u = .own ob cap∧xs.length=m1.length:=by
  rintro t1 t2 t3 m1 m2 xs hv1 hv2 ⟨a1,a2,⟨ob,cap,rows,rows',a3,a4,_⟩,_⟩ ⟨ob2,cap2,rows2,b1,b2,b3⟩;rw[a4]at b1;cases b1;exact⟨_,_,rows,a3,b2,by omega⟩
 have oo:∀ {t1 t2 t3:T} {m1:List (List t1.den)} {xs2:List t2.den} {xs3:List t3.den},(∃ ob cap rows,γ1 u = .mat ob cap rows∧γ2 u = .own ob cap∧xs2.length=m1.length)→(γ3 u=γ2 u∧t3=t2∧xs3.length=xs2.length∧(U s3→s3=s2∧(⟨t3,xs3⟩:(t:T)×List t.den)=⟨t2,xs2⟩))→∃ ob cap rows,γ1 u = .mat ob cap rows∧γ3 u = .own ob cap∧xs3.length=m1.length:=by
  rintro t1 t2 t3 m1 xs2 xs3 ⟨ob,cap,rows,a1,a2,a3⟩ ⟨b1,b2,b3,b4⟩;exact⟨ob,cap,rows,a1,by rw[b1,a2],by omega⟩
 cases x1 <;> cases x2 <;> simp only[CE]at c1 <;> cases x3 <;> simp only[CE]at c2 ⊢
 ·rw[c2,c1]
 ·obtain⟨a1,a2,a3,a4⟩:=c1;obtain⟨b1,b2,b3,b4⟩:=c2;refine⟨b1.trans a1,b2.trans a2,b3.trans a3,λhu=>?_⟩;obtain⟨e1,e2⟩:=b4 hu;have:=a4 (by rw[← e1];exact hu);exact⟨e1.trans this.1,e2.trans this.2⟩
 all_goals first | exact mm c1 c2 | exact mo c1 c2 | exact oo c1 c2 | exact⟨c2.1.trans c1.1,c2.2.trans c1.2⟩ | exact⟨c2.1.trans c1.1,c2.2.1.trans c1.2.1,c2.2.2.trans c1.2.2⟩ | exact c2.trans c1 | exact⟨c2.1.trans c1.1,c2.2.2.1.trans c1.2⟩ | exact⟨c2.1.trans c1.1,by rw[c2.2,c1.2.2]⟩
theorem Le.trans {v1 v2 v3:Zb} {γ1 γ2 γ3:Nat→Gh} {l1 l2 l3:Lo} (h:Le U v1 γ1 l1 v2 γ2 l2) (k:Le U v2 γ2 l2 v3 γ3 l3):Le U v1 γ1 l1 v3 γ3 l3:=by
 refine⟨Zb.le_trans h.v k.v,λu e3 hU he=>?_⟩;obtain⟨e2,h2,c2⟩:=k.l u e3 hU he;obtain⟨e1,h1,c1⟩:=h.l u e2 hU h2;refine⟨e1,h1,?_⟩;exact CE.tr c1 c2
theorem Zdo {ty:TypeId} {t:T}:∀ {rows:List (Option Nat×Nat)} {m:List (List t.den)} {es rest:List Loc} {v:Zb},Zra v ty t rows m es→St N w0 v0 [] (es++rest) v a w →
  ∃ v',v.le v'∧St N w0 v0 [] rest v' a w∧(Zs t.rep).rels v' (Zq rows m) m
 | [],[],es,rest,v,hr,hs=>by rw[show es=[] from hr]at hs;exact⟨v,Zb.le_refl _,hs,rfl⟩
 | p :: ps,r :: rs,es,rest,v,⟨cs,es',h1,h2,h3⟩,hs=>by
  subst h2
  obtain⟨v1,hv1,hs1,hr1⟩:=hs.pubSlice (i:=0) (A:=t.rep) (l:=r) rfl (ZK t).symm rfl h1 rfl
  obtain⟨v2,hv2,hs2,hr2⟩:=Zdo (Zqc hv1 h3) hs1
  exact⟨v2,Zb.le_trans hv1 hv2,hs2,[_],_,rfl,Rep.mono _ hv2 hr1,hr2⟩
 | [],_ :: _,_,_,_,hr,_=>hr.elim
 | _ :: _,[],_,_,_,hr,_=>hr.elim
theorem RelX.freeze (h:RelX N G w0 v0 U X f l a w γ v ℓ) {u n k st:Nat} {ty:TypeId} {t:T} {xs:List t.den} {ex:List Loc} (hex:St N w0 v0 [] (ex++ℓ) v a w) (hu:lkE l u=some ⟨k,st,.own ty t xs false⟩) (hn:¬ U n) (hX:X n) :
  ∃ v' ℓ' ,RelX N G w0 v0 U X f (⟨u,n,.own ty t xs true⟩ :: era l u) a w γ v' ℓ'∧St N w0 v0 [] (ex++ℓ') v' a w∧Le U v γ l v' γ (⟨u,n,.own ty t xs true⟩ :: era l u)∧∃ ob cap,γ u = .own ob cap∧(Zs t.rep).rel v' [.slice (mkA ob) xs.length cap] xs:=by
 obtain⟨hm,hk⟩:=Zk hu;have hk:k=u:=hk;subst hk;obtain⟨es,E',h1,h2,_,h3,_⟩:=h.del hu;obtain⟨ob,cap,cs,g1,g2,rfl⟩:=h1;have hs:St N w0 v0 [] (.own ob ty t.n xs.length cap cs :: (ex++E'.flatten)) v a w:=hex.perm ((List.Perm.append_left ex h3).trans (by rw[List.singleton_append];exact List.perm_middle));obtain⟨v',hv,hx',hr⟩:=hs.pubSlice (i:=0) (A:=t.rep) (l:=xs) rfl (ZK t).symm rfl g2 rfl;have hx':St N w0 v0 [] (ex++E'.flatten) v' a w:=hx';have hs':St N w0 v0 [] E'.flatten v' a w:=hx'.drop (List.sublist_append_right _ _);have hle:Le U v γ l v' γ (⟨k,n,.own ty t xs true⟩ :: era l k):=Le.upd h hu hv (λ_ _=>rfl) ⟨rfl,rfl,rfl,λe=>absurd e hn⟩;exact⟨v',_,h.upd hX (h.ul _ hm).1 h2 hs' hle (λ_ _=>rfl) ⟨ob,cap,g1,hr,rfl⟩ (List.Perm.refl _) trivial,hx',hle,ob,cap,g1,hr⟩
theorem RelX.freezeL (h:RelX N G w0 v0 U X f l a w γ v ℓ) {u n k st:Nat} {ty:TypeId} {t:T} {xs:List t.den} {c:V} {x:t.den} {ex:List Loc} (hex:St N w0 v0 [] (ex++ℓ) v a w) (hu:lkE l u=some ⟨k,st,.lst ty t xs c⟩) (hX:X n)
  (hx:∀ b cap cs cl,γ u = .own (some b) cap→t.rep.rels v cs xs→cl.length=t.n→(Loc.own (some b) ty t.n (xs.length+1) cap (cs++cl)).holds w→t.rep.rel v cl x) :
  ∃ v' ℓ' ,RelX N G w0 v0 U X f (⟨u,n,.own ty t (xs++[x]) true⟩ :: era l u) a w γ v' ℓ'∧St N w0 v0 [] (ex++ℓ') v' a w∧Le U v γ l v' γ (⟨u,n,.own ty t (xs++[x]) true⟩ :: era l u)∧∃ b cap,γ u = .own (some b) cap∧(Zs t.rep).rel v' [.slice (mkA (some b)) (xs++[x]).length cap] (xs++[x]):=by
 obtain⟨hm,hk⟩:=Zk hu;have hk:k=u:=hk;subst hk;obtain⟨es,E',h1,h2,_,h3,_⟩:=h.del hu;obtain⟨b,cap,cs,cl,g1,g2,g3,g4,g5,rfl⟩:=h1;have g1:γ k = .own (some b) cap:=g1;have hh:=(h.st.loc _ (h3.mem_iff.2 (List.mem_append_left _ (List.mem_singleton.2 rfl)))).1;have hxx:=hx b cap cs cl g1 g2 g5 hh;have hs:St N w0 v0 [] (.own (some b) ty t.n (xs.length+1) cap (cs++cl) :: (ex++E'.flatten)) v a w:=hex.perm ((List.Perm.append_left ex h3).trans (by rw[List.singleton_append];exact List.perm_middle));have hlen:xs.length+1=(xs++[x]).length:=by simp
 rw[hlen]at hs;obtain⟨v',hv,hx',hr⟩:=hs.pubSlice (i:=0) (A:=t.rep) (l:=xs++[x]) rfl (ZK t).symm rfl (Z1m g2 hxx) rfl;have hx':St N w0 v0 [] (ex++E'.flatten) v' a w:=hx';have hs':St N w0 v0 [] E'.flatten v' a w:=hx'.drop (List.sublist_append_right _ _);have hle:Le U v γ l v' γ (⟨k,n,.own ty t (xs++[x]) true⟩ :: era l k):=Le.upd h hu hv (λ_ _=>rfl) ⟨rfl,hlen.symm⟩;exact⟨v',_,h.upd hX (h.ul _ hm).1 h2 hs' hle (λ_ _=>rfl) ⟨some b,cap,g1,hr,rfl⟩ (List.Perm.refl _) trivial,hx',hle,b,cap,g1,hr⟩
def ZPa (γ:Nat→Gh) (u:Nat) (g:Gh):Nat→Gh:=λk=>if k=u then g else γ k
theorem Zla {γ:Nat→Gh} {u:Nat} {g:Gh}:ZPa γ u g u=g:=iP rfl
theorem Z9a {γ:Nat→Gh} {u k:Nat} {g:Gh} (h:k≠u):ZPa γ u g k=γ k:=iN h
theorem RelX.freezeM (h:RelX N G w0 v0 U X f l a w γ v ℓ) {u n k st hv:Nat} {ty ty2:TypeId} {t:T} {m:List (List t.den)} {ex:List Loc} (hex:St N w0 v0 [] (ex++ℓ) v a w) (hu:lkE l u=some ⟨k,st,.mat ty ty2 t m hv⟩) (hn:¬ U n) (hX:X n) :
  ∃ γ' v' ℓ' ,RelX N G w0 v0 U X f (⟨u,n,.own ty (.slice t) m true⟩ :: era l u) a w γ' v' ℓ'∧St N w0 v0 [] (ex++ℓ') v' a w∧Le U v γ l v' γ' (⟨u,n,.own ty (.slice t) m true⟩ :: era l u)∧∃ ob cap rows,γ u = .mat ob cap rows∧γ' u = .own ob cap∧(Zs (Zs t.rep)).rel v' [.slice (mkA ob) m.length cap] m:=by
 obtain⟨hm,hk⟩:=Zk hu;have hk:k=u:=hk;subst hk;obtain⟨es,E',h1,h2,_,h3,_⟩:=h.del hu;obtain⟨ob,cap,rows,es2,g1,g2,rfl⟩:=h1;have hs:St N w0 v0 [] (es2++(.own ob ty 1 m.length cap (Zq rows m) :: (ex++E'.flatten))) v a w:=hex.perm ((List.Perm.append_left ex h3).trans (by
  rw[List.cons_append];refine List.perm_middle.trans ?_;refine (List.Perm.cons _ ?_).trans List.perm_middle.symm;rw[← aAq,← aAq];exact List.Perm.append_right _ List.perm_append_comm))
 obtain⟨v1,hv1,hs1,hr1⟩:=Zdo g2 hs;obtain⟨v',hv,hx',hr⟩:=hs1.pubSlice (i:=0) (A:=Zs t.rep) (l:=m) rfl rfl rfl hr1 rfl;have hx':St N w0 v0 [] (ex++E'.flatten) v' a w:=hx';have hs':St N w0 v0 [] E'.flatten v' a w:=hx'.drop (List.sublist_append_right _ _);have hle:Le U v γ l v' (ZPa γ k (.own ob cap)) (⟨k,n,.own ty (.slice t) m true⟩ :: era l k):=Le.upd h hu (Zb.le_trans hv1 hv) (λ_ hne=>Z9a hne) ⟨ob,cap,rows,g1,Zla,rfl⟩;refine⟨_,v',_,h.upd hX (h.ul _ hm).1 h2 hs' hle (λ_ hne=>Z9a hne) ⟨ob,cap,Zla,hr,rfl⟩ (List.Perm.refl _) trivial,hx',hle,ob,cap,rows,g1,Zla,hr⟩
theorem Z2 {s t:T} {x:s.den} {y:t.den} (h:T.cast s t x=some y):∃ e:s=t,e ▸ x=y:=by
 unfold T.cast at h;have:∀ (b:Bool) (hb:T.beq s t=b),T.castB s t b hb x=some y→∃ e:s=t,e ▸ x=y:=by
  intro b hb h
  cases b with
  | true=>exact⟨T.beq_eq hb,Option.some.inj h⟩
  | false=>cases h
 exact this _ _ h
theorem ZUu:∀ {t:T} {x:t.den},(Zah t x).ok U:=by
 intro t
 induction t with
 | pair a b ia ib=>intro x;exact⟨trivial,ib (x:=x.2)⟩
 | _=>intro x;exact⟨trivial,trivial⟩
theorem ZIt {t:T} {x:t.den} {c:V} (h:Zue t x=some c):c.ok U:=by
 unfold Zue at h;split at h
 ·cases h;exact ZUu
 ·cases h;exact⟨trivial,trivial⟩
 ·cases h;exact⟨trivial,trivial,trivial⟩
 ·cases h;exact⟨trivial,trivial,trivial⟩
 ·cases h;exact⟨trivial,trivial,trivial,trivial⟩
 ·cases h
theorem Znt {t:T} {x:t.den} {c:V} (h:Zac t x=some c):c.ok U:=by
 unfold Zac at h;split at h
 ·cases h;exact⟨trivial,trivial,trivial⟩
 ·exact ZIt h
theorem ZXo {v:Zb} {s t:T} {x:s.den} {y:t.den} {cs:List Value} (hr:s.rep.rel v cs x) (h:cvtQ s t x=some y):t.rep.rel v cs y∧s.rep.n=t.rep.n:=by
 unfold cvtQ at h;split at h
 ·rename_i hc
  cases h
  obtain⟨e,he⟩:=Z2 hc;subst e;subst he;exact⟨hr,rfl⟩
 ·split at h
  ·rename_i r hr1;obtain⟨e,he⟩:=Z2 hr1;subst e;subst he;split at h
   ·rename_i q hq;obtain⟨e,he⟩:=Z2 h;subst e;subst he;obtain⟨c1,c2,rfl,h1,c3,c4,rfl,h2,h3⟩:=hr;have h1:c1=[.bool _]:=h1;subst h1;have h2:Zeb.rel v c3 _:=h2;have h3:Zeb.rel v c4 _:=h3;obtain⟨qa,na,ka,rfl⟩:=Zwd h2;obtain⟨qb,nb,kb,rfl⟩:=Zwd h3;exact⟨ZUo h2 h3 hq,rfl⟩
   ·cases h
  ·cases h
theorem Ztv {α β:Type} {p:Option α} {q:Option β} {z:α×β} (h:both2 p q=some z):p=some z.1∧q=some z.2:=by
 cases p <;> cases q <;> first | (cases h;done) | (cases h;exact⟨rfl,rfl⟩)
theorem cvt_ok {v:Zb}:∀ {s t:T} {x:s.den} {y:t.den} {cs:List Value},s.rep.rel v cs x→cvt s t x=some y→t.rep.rel v cs y∧s.rep.n=t.rep.n:=by
 intro s
 induction s with
 | pair a b ia ib =>
  intro t x y cs hr h
  cases t with
  | pair c d =>
   obtain⟨h1,h2⟩:=Ztv (show both2 (cvt a c x.1) (cvt b d x.2)=some y from h);obtain⟨c1,c2,rfl,q1,q2⟩:=hr;obtain⟨k1,k2⟩:=ia q1 h1;obtain⟨k3,k4⟩:=ib q2 h2;exact⟨⟨c1,c2,rfl,k1,k3⟩,by show _+_=_+_;rw[k2,k4]⟩
  | _=>exact ZXo hr h
 | _=>intro t x y cs hr h;exact ZXo hr h
theorem Ziq {v:Zb} {s t:T}:∀ {l:List s.den} {l':List t.den} {cs:List Value},s.rep.rels v cs l→cvtL s t l=some l'→t.rep.rels v cs l'∧l'.length=l.length∧(l≠[]→s.rep.n=t.rep.n)
 | [],_,cs,hr,h=>by cases h;exact⟨hr,rfl,λe=>absurd rfl e⟩
 | x :: l,_,cs,hr,h=>by
  simp only[cvtL]at h
  split at h
  ·rename_i y z h1 h2
   cases h
   obtain⟨c1,c2,rfl,q1,q2⟩:=hr
   obtain⟨k1,k2⟩:=cvt_ok q1 h1
   obtain⟨k3,k4,_⟩:=Ziq q2 h2
   exact⟨⟨c1,c2,rfl,k1,k3⟩,by simp[k4],λ_=>k2⟩
  ·cases h
theorem ZYy {v:Zb} {s t:T} {l:List s.den} {l':List t.den} {cs:List Value} (hr:(Zs s.rep).rel v cs l) (h:cvtL s t l=some l'):(Zs t.rep).rel v cs l':=by
 obtain⟨q,cap,rfl,h1,h2,h3⟩:=hr;rcases h3 with rfl | ⟨b,off,c,T',fr,e,hb,hk⟩
 ·cases h;exact⟨q,cap,rfl,h1,h2,.inl rfl⟩
 ·obtain⟨k1,k2,k3⟩:=Ziq hk h;refine⟨q,cap,by rw[k2],by omega,h2,?_⟩;by_cases hl:l=[]
  ·subst hl;cases h;exact .inl rfl
  ·exact .inr ⟨b,off,c,T',fr,e,hb,by rw[k2,← k3 hl];exact k1⟩
theorem RelX.go (h:RelX N G w0 v0 U X f l a w γ v ℓ) {v':Zb} {w':World} (hle:v.le v') (hst:St N w0 v0 [] ℓ v' a w'):RelX N G w0 v0 U X f l a w' γ v' ℓ:=by
 obtain⟨E,hE,hp⟩:=h.lr;have hl:Le U v γ l v' γ l:=Le.refl hE hle;exact⟨hst,λt e he=>ZVa hl (h.uf t e he).1 (h.fr t e he),⟨E,hE.imp λe he es hr=>Z4f hl (h.ul e he).2.2 rfl hr,hp⟩,h.nd,h.uf,h.ul,λx y hg=>⟨ZVa hl (h.gh x y hg).2 (h.gh x y hg).1,(h.gh x y hg).2⟩⟩
theorem RelX.freezeP (h:RelX N G w0 v0 U X f l a w γ v ℓ) {u k st:Nat} {m:Option MPd} {ex:List Loc} (hex:St N w0 v0 [] (ex++ℓ) v a w) (hu:lkE l u=some ⟨k,st,.mp m⟩) :
  ∃ v' ℓ' ,RelX N G w0 v0 U X f (era l u) a w γ v' ℓ'∧St N w0 v0 [] (ex++ℓ') v' a w∧Le U v γ l v' γ (era l u)∧∀ y,mpH (γ u) m y→rMp.rel v' [y] m:=by
 obtain⟨hm,hk⟩:=Zk hu;have hk:k=u:=hk;subst hk;obtain⟨es,E',h1,h2,h5,h3,h4⟩:=h.del hu;have h1:ZZe (γ k) m es:=h1;have hle0:=Le.era h k
 cases m with
 | none =>
  obtain rfl:es=[]:=h1;refine⟨v,_,h4,hex.perm (List.Perm.append_left ex h3),hle0,λy hy=>?_⟩;rw[show y=_ from hy];rfl
 | some m =>
  obtain⟨b,g1,rfl,g2⟩:=h1;have hs:St N w0 v0 [] (.mp b (mpV m) :: (ex++E'.flatten)) v a w:=hex.perm ((List.Perm.append_left ex h3).trans (by rw[List.singleton_append];exact List.perm_middle));obtain⟨es,c,q1,q2⟩:=(hs.loc _ List.mem_cons_self).1;obtain⟨v',hv,hb,hx'⟩:=hs.publish (i:=0) rfl rfl q1 rfl;have hx':St N w0 v0 [] (ex++E'.flatten) v' a w:=hx';have hs':St N w0 v0 [] E'.flatten v' a w:=hx'.drop (List.sublist_append_right _ _);have hle:Le U v γ l v' γ (era l k):=⟨hv,hle0.l⟩;refine⟨v',_,h4.go hv hs',hx',hle,λy hy=>?_⟩;obtain⟨b',q3,rfl⟩:=hy;rw[g1]at q3;cases q3;exact⟨b,es,c,rfl,hb,q2,g2⟩
theorem ZXa {ρ:Type} {n:Nat} (hn:¬ U n) (hX:X n):∀ (g:Nat) {t:T} {x:V} {k:t.den→Ev ρ} {l:Lo} {Post:ρ→Fr→Lo→Prop} {γ:Nat→Gh} {v:Zb} {ℓ ex:List Loc},Zj n (conv g t x k) f l Post→RelX N G w0 v0 U X f l a w γ v ℓ→St N w0 v0 [] (ex++ℓ) v a w→x.ok U →
  ∃ y l' γ' v' ℓ',Zj n (k y) f l' Post∧RelX N G w0 v0 U X f l' a w γ' v' ℓ'∧St N w0 v0 [] (ex++ℓ') v' a w∧Le U v γ l v' γ' l'∧∀ cs,RR v γ l false x cs→t.rep.rel v' cs y
 | 0,_,_,_,_,_,_,_,_,_,h,_,_,_=>h.elim
 | g+1,t,x,k,l,Post,γ,v,ℓ,ex,h,hr,e0,hk=>by
  obtain⟨E,hE,_⟩:=hr.lr
  have rfl':Le U v γ l v γ l:=Le.refl hE (Zb.le_refl _)
  cases x with
  | data s x =>
   simp only[conv]at h
   split at h
   ·rename_i y hy
    obtain⟨e,he⟩:=Z2 hy
    subst e;subst he
    exact⟨_,l,γ,v,ℓ,h,hr,e0,rfl',λcs hx=>hx⟩
   ·split at h
    ·exact⟨_,l,γ,v,ℓ,h,hr,e0,rfl',λcs hx=>hx⟩
    ·exact⟨_,l,γ,v,ℓ,h,hr,e0,rfl',λcs hx=>hx⟩
    ·obtain⟨y,hy,h⟩:=h;exact⟨y,l,γ,v,ℓ,h,hr,e0,rfl',λcs hx=>clo_rel hx hy⟩
    ·obtain⟨y,hy,h⟩:=h;exact⟨y,l,γ,v,ℓ,h,hr,e0,rfl',λcs hx=>Zvw hx hy⟩
    ·obtain⟨y,l2,γ2,v2,ℓ2,k1,k2,e2,k3,k4⟩:=ZXa hn hX g h hr e0 trivial
     exact⟨y,l2,γ2,v2,ℓ2,k1,k2,e2,k3,λcs hx=>k4 cs hx.2⟩
    ·obtain⟨y,hy,h⟩:=h;exact⟨y,l,γ,v,ℓ,h,hr,e0,rfl',λcs hx=>ZYy hx hy⟩
    ·split at h
     ·rename_i c hc
      obtain⟨y,l2,γ2,v2,ℓ2,k1,k2,e2,k3,k4⟩:=ZXa hn hX g h hr e0 (x:=.agg c) (ZIt (c:=c) (t:=s) (x:=x) hc:c.ok U)
      exact⟨y,l2,γ2,v2,ℓ2,k1,k2,e2,k3,λcs hx=>k4 cs (ZAn (U:=U) (γ:=γ) (l:=l) hc hx).1⟩
     ·exact h.elim
  | nilS =>
   simp only[conv]at h
   split at h
   ·exact⟨_,l,γ,v,ℓ,h,hr,e0,rfl',λcs hx=>by rw[show cs=_ from hx];exact ZEf _ _⟩
   ·exact⟨_,l,γ,v,ℓ,h,hr,e0,rfl',λcs hx=>by rw[show cs=_ from hx];exact Zvg _⟩
   ·exact⟨_,l,γ,v,ℓ,h,hr,e0,rfl',λcs hx=>by rw[show cs=_ from hx];exact Zmk _⟩
   ·exact⟨_,l,γ,v,ℓ,h,hr,e0,rfl',λcs hx=>⟨λ_=>hx,by rw[show cs=_ from hx];exact ZEf _ _⟩⟩
   ·exact h.elim
  | own u =>
   simp only[conv]at h
   obtain⟨e,he,h⟩:=h
   obtain⟨kk,st,L⟩:=e
   obtain⟨hm,hkk⟩:=Zk he
   have hkk:kk=u:=hkk
   subst hkk
   cases L with
   | box _ _=>exact h.elim
   | mid _ _ _ _ _ _=>exact h.elim
   | lst ty s xs c =>
    simp only at h
    split at h
    ·obtain⟨xx,l1,γ1,v1,ℓ1,hB,r1,e1,le1,q1⟩:=ZXa hn hX g h hr e0 (hr.ul _ hm).2.2
     obtain⟨⟨k3,st3,L3⟩,he3,hC⟩:=hB
     have hkk3:k3=kk:=(Zk he3).2
     subst hkk3
     obtain⟨e00,he00,hce⟩:=le1.l _ _ hk he3
     rw[he]at he00;cases he00
     cases L3 with
     | lst ty3 s3 l3 c3 =>
      simp only at hC
      split at hC
      ·rename_i x' hx'
       obtain⟨c5,c6⟩:=Z2 hx'
       cases c5;cases c6
       obtain⟨hce1,hce2,hce3⟩:γ1 k3=γ k3∧_∧l3.length=xs.length:=hce
       obtain⟨esa,Ea,a1,a2,a2',a3,_⟩:=hr.del he
       obtain⟨ba,capa,csa,cla,a4,a5,a6,a7,a8,rfl⟩:=a1
       have a4:γ k3 = .own (some ba) capa:=a4
       have m0:=(hr.st.loc _ (a3.mem_iff.2 (List.mem_append_left _ (List.mem_singleton.2 rfl)))).1
       obtain⟨v',ℓ',f1,e2,f2,b,cap,g1,g2⟩:=r1.freezeL (x:=xx) e1 he3 hX (λb cap cs cl p1 p2 p3 m1=>by
        rw[hce1,a4]at p1;cases p1
        have hcl:cla=cl:=by
         obtain⟨_,cur0,t1,_,_,_,t2⟩:=m0;obtain⟨_,cur1,t3,_,_,_,t4⟩:=m1;rw[t1]at t3;cases t3;rw[hce3,t2]at t4;have l0:=Z6a a5;have l1:=Z6a p2;rw[hce3]at l1;exact (List.append_inj t4 (l0.trans l1.symm)).2
        subst hcl;exact q1 _ a6)
       obtain⟨y,l2,γ2,v2,ℓ2,k1,k2,e3,k4,k5⟩:=ZXa hn hX g hC f1 e2 (x:=.data (.slice _) (l3++[xx])) trivial;refine⟨y,l2,γ2,v2,ℓ2,k1,k2,e3,(le1.trans f2).trans k4,λcs hx=>?_⟩;obtain⟨y',rfl,hp,hy⟩:=hx;obtain⟨ob',cap',g3,g4⟩:=hy _ he;rw[hce1]at g1;rw[g1]at g3;cases g3;subst g4;rw[← hce3,show l3.length+1=(l3++[xx]).length by simp];exact k5 _ g2
      ·exact hC.elim
     | _=>exact hC.elim
    ·exact h.elim
   | it _ _=>exact h.elim
   | mp m =>
    simp only at h;split at h
    ·obtain⟨v',ℓ',f1,e1,f2,f3⟩:=hr.freezeP e0 he;refine⟨m,_,γ,v',ℓ',h,f1,e1,f2,λcs hx=>?_⟩;obtain⟨y',rfl,hp,hy⟩:=hx;exact f3 _ (hy _ he)
    ·exact h.elim
   | own ty s xs fz =>
    cases fz with
    | true =>
     obtain⟨es,hes⟩:=ZCd hE hm;obtain⟨ob,cap,g1,g2,_⟩:=hes;have g1:γ kk = .own ob cap:=g1;obtain⟨y,l2,γ2,v2,ℓ2,k1,k2,e2,k3,k4⟩:=ZXa hn hX g h hr e0 (x:=.data (.slice s) xs) trivial;refine⟨y,l2,γ2,v2,ℓ2,k1,k2,e2,k3,λcs hx=>?_⟩;obtain⟨y',rfl,hp,hy⟩:=hx;obtain⟨ob',cap',g3,g4⟩:=hy _ he;rw[g1]at g3;cases g3;subst g4;exact k4 _ g2
    | false =>
     obtain⟨v',ℓ',f1,e1,f2,ob,cap,g1,g2⟩:=hr.freeze e0 he hn hX;obtain⟨y,l2,γ2,v2,ℓ2,k1,k2,e2,k3,k4⟩:=ZXa hn hX g h f1 e1 (x:=.data (.slice s) xs) trivial;refine⟨y,l2,γ2,v2,ℓ2,k1,k2,e2,f2.trans k3,λcs hx=>?_⟩;obtain⟨y',rfl,hp,hy⟩:=hx;obtain⟨ob',cap',g3,g4⟩:=hy _ he;rw[g1]at g3;cases g3;subst g4;exact k4 _ g2
   | mat ty _ s m _ =>
    obtain⟨γ',v',ℓ',f1,e1,f2,ob,cap,rows,g1,g1',g2⟩:=hr.freezeM e0 he hn hX;obtain⟨y,l2,γ2,v2,ℓ2,k1,k2,e2,k3,k4⟩:=ZXa hn hX g h f1 e1 (x:=.data (.slice (.slice s)) m) trivial;refine⟨y,l2,γ2,v2,ℓ2,k1,k2,e2,f2.trans k3,λcs hx=>?_⟩;obtain⟨y',rfl,hp,hy⟩:=hx;obtain⟨ob',cap',rows',g3,g4⟩:=hy _ he;rw[g1]at g3;cases g3;subst g4;exact k4 _ g2
  | agg c =>
   cases c with
   | cons x1 c =>
    cases c with
    | cons x2 r =>
     have hk1:x1.ok U:=hk.1;have hk2:x2.ok U:=hk.2.1;have hk3:r.ok U:=hk.2.2;simp only[conv]at h;split at h
     · -- an integer
      obtain⟨s,l1,γ1,v1,ℓ1,h,r1,e1,le1,q1⟩:=ZXa hn hX g h hr e0 hk1;obtain⟨m,l2,γ2,v2,ℓ2,h,r2,e2,le2,q2⟩:=ZXa hn hX g h r1 e1 hk2;obtain⟨y,hy,h⟩:=h;refine⟨y,l2,γ2,v2,ℓ2,h,r2,e2,le1.trans le2,λcs hx=>?_⟩;obtain⟨c1,c2',rfl,hx1,c2,c3,rfl,hx2,hx3⟩:=hx;have hx3:c3=[]:=hx3;subst hx3;have q1:=q1 _ hx1;have q2:=q2 _ (ZAa le1 hk2 hx2);have q1:c1=[.bool s]:=Rep.mono Znb le2.v q1;subst q1;have q2:Zu.rel v2 c2 m:=q2;obtain⟨qa,na,ka,rfl⟩:=ZGa q2;exact Z7x q2 hy
     · -- a fraction
      obtain⟨s,l1,γ1,v1,ℓ1,h,r1,e1,le1,q1⟩:=ZXa hn hX g h hr e0 hk1;obtain⟨m,l2,γ2,v2,ℓ2,h,r2,e2,le2,q2⟩:=ZXa hn hX g h r1 e1 hk2;obtain⟨y,hy,h⟩:=h;refine⟨y,l2,γ2,v2,ℓ2,h,r2,e2,le1.trans le2,λcs hx=>?_⟩;obtain⟨c1,c2',rfl,hx1,c2,c3,rfl,hx2,hx3⟩:=hx;have hx3:c3=[]:=hx3;subst hx3;have q1:=q1 _ hx1;have q2:=q2 _ (ZAa le1 hk2 hx2);have q1:Zkb.rel v2 c1 s:=Rep.mono Zkb le2.v q1;obtain⟨sb,qb,nb,kb,rfl⟩:=Z3f q1;have q2:Zu.rel v2 c2 m:=q2;obtain⟨qa,na,ka,rfl⟩:=ZGa q2;exact Zms q1 q2 hy
     · -- the reference's fraction
      rename_i x3 _;have hk4:x3.ok U:=hk3.1;obtain⟨s,l1,γ1,v1,ℓ1,h,r1,e1,le1,q1⟩:=ZXa hn hX g h hr e0 hk1;obtain⟨m,l2,γ2,v2,ℓ2,h,r2,e2,le2,q2⟩:=ZXa hn hX g h r1 e1 hk2;obtain⟨d,l3,γ3,v3,ℓ3,h,r3,e3,le3,q3⟩:=ZXa hn hX g h r2 e2 hk4;obtain⟨y,hy,h⟩:=h;refine⟨y,l3,γ3,v3,ℓ3,h,r3,e3,(le1.trans le2).trans le3,λcs hx=>?_⟩;obtain⟨c1,c2',rfl,hx1,c2,c3,rfl,hx2,hx3⟩:=hx;obtain⟨c4,c5,rfl,hx4,hx5⟩:=hx3;have hx5:c5=[]:=hx5;subst hx5;have q1:=q1 _ hx1;have q2:=q2 _ (ZAa le1 hk2 hx2);have q3:=q3 _ (ZAa (le1.trans le2) hk4 hx4);have q1:c1=[.bool s]:=q1;subst q1;have q2:Zeb.rel v3 c2 m:=Rep.mono Zeb le3.v q2;obtain⟨qa,na,ka,rfl⟩:=Zwd q2;have q3:Zeb.rel v3 c4 d:=q3;obtain⟨qb,nb,kb,rfl⟩:=Zwd q3;exact ZUo q2 q3 hy
     ·obtain⟨y1,l1,γ1,v1,ℓ1,h,r1,e1,le1,q1⟩:=ZXa hn hX g h hr e0 hk1;obtain⟨y2,l2,γ2,v2,ℓ2,h,r2,e2,le2,q2⟩:=ZXa hn hX g h r1 e1 hk2;refine⟨_,l2,γ2,v2,ℓ2,h,r2,e2,le1.trans le2,λcs hx=>?_⟩;obtain⟨c1,c2',rfl,hx1,c2,c3,rfl,hx2,hx3⟩:=hx;have hx3:c3=[]:=hx3;subst hx3;exact⟨c1,c2,by simp,Rep.mono _ le2.v (q1 _ hx1),q2 _ (ZAa le1 hk2 hx2)⟩
     ·obtain⟨y1,l1,γ1,v1,ℓ1,h,r1,e1,le1,q1⟩:=ZXa hn hX g h hr e0 hk1;obtain⟨y2,l2,γ2,v2,ℓ2,h,r2,e2,le2,q2⟩:=ZXa hn hX g h r1 e1 (x:=.agg (.cons x2 r)) ⟨hk2,hk3⟩;refine⟨_,l2,γ2,v2,ℓ2,h,r2,e2,le1.trans le2,λcs hx=>?_⟩;obtain⟨c1,c2',rfl,hx1,c2,c3,rfl,hx2,hx3⟩:=hx;exact⟨c1,c2++c3,rfl,Rep.mono _ le2.v (q1 _ hx1),q2 _ (ZAa le1 (x:=.agg (.cons x2 r)) ⟨hk2,hk3⟩ (m:=false) ⟨c2,c3,rfl,hx2,hx3⟩)⟩
     ·exact h.elim
    | nl =>
     simp only[conv]at h;split at h
     ·obtain⟨y1,l1,γ1,v1,ℓ1,h,r1,e1,le1,q1⟩:=ZXa hn hX g h hr e0 hk.1;refine⟨_,l1,γ1,v1,ℓ1,h,r1,e1,le1,λcs hx=>?_⟩;obtain⟨c1,c2,rfl,hx1,hx2⟩:=hx;have hx2:c2=[]:=hx2;subst hx2;rw[List.append_nil];exact q1 _ hx1
     ·exact h.elim
    | _=>simp only[conv]at h;exact h.elim
   | _=>simp only[conv]at h;exact h.elim
  | ptr u off =>
   cases off with
   | succ _=>simp only[conv]at h;exact h.elim
   | zero =>
    simp only[conv]at h;split at h
    ·obtain⟨⟨k0,st0,L⟩,he,h⟩:=h;have hkk:k0=u:=(Zk he).2;subst hkk
     cases L with
     | box ty0 c =>
      simp only at h;obtain⟨es,E',h1,_,_,h3,_⟩:=hr.del he;obtain⟨b',cs,g2,g3,g4,rfl⟩:=h1;have g2:γ k0 = .box b':=g2;obtain⟨x1,l1,γ1,v1,ℓ1,hB,r1,e1,le1,q1⟩:=ZXa hn hX g h hr e0 (hr.ul _ (Zk he).1).2.2;obtain⟨⟨k1,st1,L1⟩,he1,hC⟩:=hB;have hkk1:k1=k0:=(Zk he1).2;subst hkk1
      cases L1 with
      | box ty1 c1 =>
       obtain⟨e0',he0,hce⟩:=le1.l _ _ hk he1;rw[he]at he0;cases he0;have hce:γ1 k1=γ k1:=hce;obtain⟨es1,E1,f1,_,_,f3,r2⟩:=r1.del he1;obtain⟨b1,cs1,f4,f5,f6,rfl⟩:=f1;have f4:γ1 k1 = .box b1:=f4;rw[hce,g2]at f4;cases f4;have m0:=(hr.st.loc _ (h3.mem_iff.2 (List.mem_append_left _ (List.mem_singleton.2 rfl)))).1;have m1:=(r1.st.loc _ (f3.mem_iff.2 (List.mem_append_left _ (List.mem_singleton.2 rfl)))).1;have m0:w.heap[b']? = some (.cells cs.toArray ty0 (0,0)):=m0;have m1:w.heap[b']? = some (.cells cs1.toArray ty1 (0,0)):=m1;rw[m0]at m1;have hcs:cs=cs1:=by
        have:=Option.some.inj m1
        injection this with h1 _ _
        have:=congrArg Array.toList h1
        simpa using this
       subst hcs;have e2:St N w0 v0 [] (.box b' ty1 cs :: (ex++E1.flatten)) v1 a w:=e1.perm ((List.Perm.append_left ex f3).trans List.perm_middle);obtain⟨v',hv,hs1,hAt⟩:=e2.pubVar (i:=0) rfl rfl;have hs1:St N w0 v0 [] (ex++E1.flatten) v' a w:=hs1;have r3:=r2.go hv (hs1.drop (List.sublist_append_right _ _));obtain⟨E3,hE3,_⟩:=r2.lr;refine⟨x1,_,γ1,v',_,hC,r3,hs1,(le1.trans (Le.era r1 k1)).trans (Le.refl hE3 hv),λcs' hx=>?_⟩;obtain⟨y',rfl,_,hy⟩:=hx;obtain⟨b2,g5,rfl⟩:=hy _ he;rw[g2]at g5;cases g5;exact rPtr_mk hAt (Rep.mono _ hv (q1 _ g3))
      | own _ _ _ _=>exact hC.elim
      | mid _ _ _ _ _ _=>exact hC.elim
      | mp _=>exact hC.elim
      | it _ _=>exact hC.elim
      | lst _ _ _ _=>exact hC.elim
      | mat _ _ _ _ _=>exact hC.elim
     | own _ _ _ _=>exact h.elim
     | mid _ _ _ _ _ _=>exact h.elim
     | mp _=>exact h.elim
     | it _ _=>exact h.elim
     | lst _ _ _ _=>exact h.elim
     | mat _ _ _ _ _=>exact h.elim
    ·exact⟨(),l,γ,v,ℓ,h,hr,e0,rfl',λcs hx=>by obtain⟨y,rfl,hp,_⟩:=hx;exact⟨y,rfl,hp⟩⟩
    ·exact h.elim
  | _=>simp only[conv]at h;exact h.elim
theorem ZSc {ρ:Type} {n:Nat} (hn:¬ U n) (hX:X n) (g:Nat) {t:T} {x:V} {k:t.den→Ev ρ} {l:Lo} {Post:ρ→Fr→Lo→Prop} {γ:Nat→Gh} {v:Zb} {ℓ:List Loc} (h:Zj n (conv g t x k) f l Post) (hr:RelX N G w0 v0 U X f l a w γ v ℓ) (hk:x.ok U) :
  ∃ y l' γ' v' ℓ',Zj n (k y) f l' Post∧RelX N G w0 v0 U X f l' a w γ' v' ℓ'∧Le U v γ l v' γ' l'∧∀ cs,RR v γ l false x cs→t.rep.rel v' cs y:=by
 obtain⟨y,l',γ',v',ℓ',h1,h2,_,h3,h4⟩:=ZXa (ex:=[]) hn hX g h hr hr.st hk;exact⟨y,l',γ',v',ℓ',h1,h2,h3,h4⟩
end
end Go.Eng
namespace Go.Eng
open Go.RowKit
variable {P:Program} {K:Nat} {w0:Base} {v0:Zb} {σ:List (Nat×Value)} {ℓ:List Loc} {v:Zb} {a:Act} {w:World}
theorem Z4x {P:Program} {Q:Exit→Act→World→Prop} {a:Act} {w:World} {c:Code} {n:Nat} (h:c.wp P (Exit.then (Code.rounds P c Q n) Q) a w):Code.rounds P c Q (n+1) a w:=h
end Go.Eng
namespace Go.Eng
open Go.RowKit
section
variable {P:Program} {K:Nat} {w0:Base} {v0:Zb} {σ:List (Nat×Value)} {ℓ:List Loc} {v:Zb} {a:Act} {w:World}
variable {d:Option Nat} {ty:TypeId} {pos:String} {aft:Array Edge} {g:Option (Nat×Bool)}
theorem Z1p (hS:St K w0 v0 σ ℓ v a w) {t:TypeId} {x j:Operand} {X J z:Value} (e:ev σ x=some X) (e':ev σ j=some J) (h:(Instr.index t X J).run P w = .ok z w) :
  (execOp a.eval ⟨d,.index t x j,ty,pos,aft,g⟩).run P w = .ok (.value z) w:=by
 simp[execOp,hS.eval e,hS.eval e',h]
end
end Go.Eng
namespace Go.Eng
open Go.RowKit
section
variable {K:Nat} {w0:Base} {v0:Zb} {ℓ:List Loc} {v:Zb} {a:Act} {w:World}
theorem St.evs (h:St K w0 v0 [] ℓ v a w):∀ xs:List Operand,∃ σ,St K w0 v0 σ ℓ v a w∧∀ x ∈ xs,ev σ x=some (a.eval x)
 | []=>⟨[],h,λ_ e=>by cases e⟩
 | x :: xs=>by
  obtain⟨σ,hs,hx⟩:=St.evs h xs
  cases x with
  | tmp t =>
   refine⟨(t,a.tmps.getD t undef) :: σ,hs.learn rfl,λz hz=>?_⟩
   rcases List.mem_cons.1 hz with rfl | hz
   ·exact Z4e rfl
   ·have h1:=hx z hz
    cases z with
    | tmp t' =>
     by_cases e:t=t'
     ·subst e;exact Z4e rfl
     ·show look _ t'=_;rw[ZIg e];exact h1
    | _=>exact h1
  | const c=>exact⟨σ,hs,λz hz=>by rcases List.mem_cons.1 hz with rfl | hz;exact rfl;exact hx z hz⟩
  | global g=>exact⟨σ,hs,λz hz=>by rcases List.mem_cons.1 hz with rfl | hz;exact rfl;exact hx z hz⟩
  | func g=>exact⟨σ,hs,λz hz=>by rcases List.mem_cons.1 hz with rfl | hz;exact rfl;exact hx z hz⟩
theorem St.ev1 (h:St K w0 v0 [] ℓ v a w) (x:Operand):∃ σ,St K w0 v0 σ ℓ v a w∧ev σ x=some (a.eval x):=by
 obtain⟨σ,h1,h2⟩:=h.evs [x];exact⟨σ,h1,h2 x (by simp)⟩
theorem St.ev2 (h:St K w0 v0 [] ℓ v a w) (x y:Operand):∃ σ,St K w0 v0 σ ℓ v a w∧ev σ x=some (a.eval x)∧ev σ y=some (a.eval y):=by
 obtain⟨σ,h1,h2⟩:=h.evs [x,y];exact⟨σ,h1,h2 x (by simp),h2 y (by simp)⟩
theorem St.ev6 (h:St K w0 v0 [] ℓ v a w) (x1 x2 x3 x4 x5 x6:Operand):∃ σ,St K w0 v0 σ ℓ v a w∧ev σ x1=some (a.eval x1)∧ev σ x2=some (a.eval x2)∧ev σ x3=some (a.eval x3)∧ev σ x4=some (a.eval x4)∧ev σ x5=some (a.eval x5)∧ev σ x6=some (a.eval x6):=by
 obtain⟨σ,h1,h2⟩:=h.evs [x1,x2,x3,x4,x5,x6];exact⟨σ,h1,h2 _ (by simp),h2 _ (by simp),h2 _ (by simp),h2 _ (by simp),h2 _ (by simp),h2 _ (by simp)⟩
theorem St.ev3 (h:St K w0 v0 [] ℓ v a w) (x y z:Operand):∃ σ,St K w0 v0 σ ℓ v a w∧ev σ x=some (a.eval x)∧ev σ y=some (a.eval y)∧ev σ z=some (a.eval z):=by
 obtain⟨σ,h1,h2⟩:=h.evs [x,y,z];exact⟨σ,h1,h2 x (by simp),h2 y (by simp),h2 z (by simp)⟩
end
section
variable {P:Program} {N:Nat} {G:V→Value→Prop} {w0:Base} {v0:Zb} {U X:Nat→Prop} {f:Fr} {l:Lo} {a:Act} {w:World} {γ:Nat→Gh} {v:Zb} {ℓ:List Loc} {n:Nat}
def Z8 (P:Program) (N:Nat) (G:V→Value→Prop) (w0:Base) (v0:Zb) (X:Nat→Prop) (o:Oper) (a:Act) (w:World) (Post:Unit→Fr→Lo→Prop):Prop :=
 Zpb P o a w λx w'=>∃ f' l',Post () f' l'∧Rel N G w0 v0 X f' l' (a.put o.dst x) w'
theorem fin {o:Oper} {l':Lo} {w':World} {γ':Nat→Gh} {v':Zb} {ℓ':List Loc} {x:V} {y:Value} {Post:Unit→Fr→Lo→Prop} (hr:RelX N G w0 v0 X X f l' a w' γ' v' ℓ') (hrun:(execOp a.eval o).run P w = .ok (.value y) w')
  (hd:∀ d,o.dst=some d→d<N) (hX:X n) (hv:RV v' γ' l' x y) (hk:x.ok X) (h:Zj n (ret o x) f l' Post):Z8 P N G w0 v0 X o a w Post:=by
 unfold ret at h;refine ZYe hrun ?_
 cases hdd:o.dst with
 | none=>rw[hdd]at h;exact h.elim
 | some d =>
  rw[hdd]at h;exact⟨_,_,h,_,_,_,hr.put (hd d hdd) hv hk hX⟩
theorem ZZ {o:Oper} {x:V} {y:Value} {Post:Unit→Fr→Lo→Prop} (hr:RelX N G w0 v0 U X f l a w γ v ℓ) (hU:∀ k,U k→X k) (hrun:(execOp a.eval o).run P w = .ok (.value y) w)
  (hd:∀ d,o.dst=some d→d<N) (hX:X n) (hv:RV v γ l x y) (hk:x.ok X) (h:Zj n (ret o x) f l Post):Z8 P N G w0 v0 X o a w Post :=
 fin (hr.mono hU λ_ h=>h) hrun hd hX hv hk h
def Zqg (P:Program) (N:Nat) (G:V→Value→Prop) (w0:Base) (v0:Zb) (X:Nat→Prop) (o:Oper) (a:Act) (w:World) (Post:Unit→Fr→Lo→Prop):Prop :=
 ∃ y,(execOp a.eval o).run P w = .ok (.value y) w∧∃ f' l',Post () f' l'∧Rel N G w0 v0 X f' l' (a.put o.dst y) w
theorem Zqg.good {o:Oper} {Post:Unit→Fr→Lo→Prop} (h:Zqg P N G w0 v0 X o a w Post):Z8 P N G w0 v0 X o a w Post:=by
 obtain⟨y,h1,h2⟩:=h;exact ZYe h1 h2
theorem ZSb {o:Oper} {x:V} {y:Value} {Post:Unit→Fr→Lo→Prop} (hr:RelX N G w0 v0 U X f l a w γ v ℓ) (hU:∀ k,U k→X k) (hrun:(execOp a.eval o).run P w = .ok (.value y) w)
  (hd:∀ d,o.dst=some d→d<N) (hX:X n) (hv:RV v γ l x y) (hk:x.ok X) (h:Zj n (ret o x) f l Post):Zqg P N G w0 v0 X o a w Post:=by
 unfold ret at h;refine⟨y,hrun,?_⟩
 cases hdd:o.dst with
 | none=>rw[hdd]at h;exact h.elim
 | some d =>
  rw[hdd]at h;exact⟨_,_,h,_,_,_,(hr.mono hU λ_ h=>h).put (hd d hdd) hv hk hX⟩
theorem ZYb {x:V} {cs:List Value} (h:RR v γ l false x cs) (hx:∀ c,x ≠ .tup c):RV v γ l x (x.val cs):=by
 cases x with
 | tup c=>exact absurd rfl (hx c)
 | _=>exact⟨cs,h,rfl⟩
theorem Z8a {x:V} {y:Value} (h:RV v γ l x y) (hx:∀ c,x ≠ .tup c):∃ cs,RR v γ l false x cs∧y=x.val cs:=by
 cases x with
 | tup c=>exact absurd rfl (hx c)
 | _=>exact h
theorem Z7c {t:T} {x:t.den} {y:Value} (h:RV v γ l (.data t x) y):∃ cs,t.rep.rel v cs x∧y=t.rep.val cs:=by
 obtain⟨cs,h1,h2⟩:=h;exact⟨cs,h1,by rw[h2,Zjg]⟩
theorem Zza {k:IntKind} {i:Int} {y:Value} (h:RV v γ l (.data (.int k) i) y):y = .int k i∧inR k i:=by
 obtain⟨cs,h1,rfl⟩:=h;obtain⟨rfl,h2⟩:=h1;exact⟨rfl,h2⟩
theorem Z7e {b:Bool} {y:Value} (h:RV v γ l (.data .bool b) y):y = .bool b:=by
 obtain⟨cs,h1,rfl⟩:=h;have h1:cs=[.bool b]:=h1;subst h1;rfl
theorem ZZc {s:List UInt8} {y:Value} (h:RV v γ l (.data .str s) y):y = .string (Zg s)∧s.length≤maxLen:=by
 obtain⟨cs,h1,rfl⟩:=h;obtain⟨rfl,h2⟩:=h1;exact⟨rfl,h2⟩
theorem ZMa {k:IntKind} {i:Int} (h:inR k i):RV v γ l (.data (.int k) i) (.int k i):=⟨[.int k i],⟨rfl,h⟩,rfl⟩
theorem ZPb {b:Bool}:RV v γ l (.data .bool b) (.bool b):=⟨[.bool b],rfl,rfl⟩
theorem Z2i {s:List UInt8} (h:s.length≤maxLen):RV v γ l (.data .str s) (.string (Zg s)):=⟨[.string (Zg s)],⟨rfl,h⟩,rfl⟩
theorem Z0l {t:T} {xs:List t.den} {y:Value} (h:RV v γ l (.data (.slice t) xs) y):∃ q n c,y = .slice q n c∧(Zs t.rep).rel v [.slice q n c] xs:=by
 obtain⟨cs,h1,rfl⟩:=h;obtain⟨q,n,c,rfl⟩:=Zkg (A:=t.rep) h1;exact⟨q,n,c,rfl,h1⟩
theorem Z6 {x:V} {y:Value} (h:RV v γ l x y) (hx:∀ c,x ≠ .tup c) (hs:x.size=1) (ha:x.isAgg=false):RR v γ l false x [y]:=by
 obtain⟨cs,h1,rfl⟩:=Z8a h hx;rw[Z0g h1 hs ha]at h1;exact h1
theorem Zyz {c:Value} {x:V} (h:Zdj c=some x):RV v γ l x c∧x.ok U:=by
 unfold Zdj at h;split at h
 ·cases h;exact⟨ZPb,trivial⟩
 ·split at h
  ·cases h;exact⟨ZMa (by assumption),trivial⟩
  ·cases h
 ·split at h
  ·cases h;exact⟨⟨[_],⟨rfl,by assumption⟩,rfl⟩,trivial⟩
  ·cases h
 ·rename_i s;split at h
  ·cases h
   refine⟨?_,trivial⟩;have:=Z2i (v:=v) (γ:=γ) (l:=l) (s:=s.data.toList) (by assumption)
   simpa [Zg] using this
  ·cases h
 ·cases h;exact⟨⟨[_],rfl,rfl⟩,trivial⟩
 ·cases h;exact⟨⟨[_],rfl,rfl⟩,trivial⟩
 ·cases h
theorem ZEk (hr:RelX N G w0 v0 U X f l a w γ v ℓ) {x:Operand} {V':V} (h:opdV f x=some V'):RV v γ l V' (a.eval x)∧V'.ok U:=by
 cases x with
 | tmp t =>
  simp only[opdV]at h;split at h
  ·rename_i e he;cases h;exact⟨hr.fr t e he,(hr.uf _ e he).1⟩
  ·cases h
 | const c=>exact Zyz h
 | func g=>cases h;exact⟨⟨[_],⟨[],rfl,rfl⟩,rfl⟩,trivial⟩
 | global g=>cases h
theorem Zyw {ρ:Type} {x:Operand} {k:V→Ev ρ} {Post:ρ→Fr→Lo→Prop} (h:Zj n (opd x k) f l Post):∃ V',opdV f x=some V'∧Zj n (k V') f l Post:=by
 cases x with
 | tmp t=>obtain⟨e,he,h⟩:=h;exact⟨e.x,by simp only[opdV,he],h⟩
 | const c =>
  simp only[opd]at h;split at h
  ·rename_i x hx;exact⟨x,hx,h⟩
  ·exact h.elim
 | func g=>exact⟨_,rfl,h⟩
 | global g=>exact h.elim
theorem ZA {ρ:Type} (hr:RelX N G w0 v0 U X f l a w γ v ℓ) {x:Operand} {k:V→Ev ρ} {Post:ρ→Fr→Lo→Prop} (h:Zj n (opd x k) f l Post):∃ V',RV v γ l V' (a.eval x)∧V'.ok U∧Zj n (k V') f l Post:=by
 obtain⟨V',h1,h2⟩:=Zyw h;obtain⟨h3,h4⟩:=ZEk hr h1;exact⟨V',h3,h4,h2⟩
theorem Zdb {ρ:Type} {x:V} {k:IntKind→Int→Ev ρ} {Post:ρ→Fr→Lo→Prop} (h:Zj n (Z3a x k) f l Post):∃ κ i,x = .data (.int κ) i∧Zj n (k κ i) f l Post:=by
 unfold Z3a at h;split at h
 ·exact⟨_,_,rfl,h⟩
 ·exact h.elim
theorem Zwu {ρ:Type} {x:V} {k:Bool→Ev ρ} {Post:ρ→Fr→Lo→Prop} (h:Zj n (Z4k x k) f l Post):∃ b,x = .data .bool b∧Zj n (k b) f l Post:=by
 unfold Z4k at h;split at h
 ·exact⟨_,rfl,h⟩
 ·exact h.elim
theorem ZWn {t:TypeId} {p q:Bool} (ht:P.underlying t=some .bool) (w:World):(Op.equal t (.bool p) (.bool q)).run P w = .ok (p==q) w:=by
 show (Op.equalIn (9999+1) t (.bool p) (.bool q)).run P w=_;unfold Op.equalIn;simp[run_underlying ht]
theorem Z3u {t:TypeId} {p q:Bool} (ht:P.underlying t=some .bool) (w:World):(binOp .eql t (.bool p) (.bool q)).run P w = .ok (.bool (p==q)) w:=by
 simp[binOp,ZWn ht]
theorem Z3y {t:TypeId} {p q:Bool} (ht:P.underlying t=some .bool) (w:World):(binOp .neq t (.bool p) (.bool q)).run P w = .ok (.bool (p != q)) w:=by
 simp[binOp,ZWn ht,bne]
theorem binI_ok {op:BinOp} {κ:IntKind} {i j:Int} {k:V→Ev Unit} {Post:Unit→Fr→Lo→Prop} (t:TypeId) (hi:inR κ i) (h:Zj n (binI op κ i j k) f l Post):∃ x y,(∀ w,(binOp op t (.int κ i) (.int κ j)).run P w = .ok y w)∧RV v γ l x y∧x.ok U∧Zj n (k x) f l Post:=by
 unfold binI at h;split at h
 ·split at h
  ·obtain⟨z,hz,h⟩:=h;exact⟨_,_,ZYc hz,ZMa (Zcb hz).2,trivial,h⟩
  ·exact⟨_,_,Z2k,ZMa (Zub _ _),trivial,h⟩
 ·split at h
  ·obtain⟨z,hz,h⟩:=h;exact⟨_,_,Ztb hz,ZMa (Zcb hz).2,trivial,h⟩
  ·exact⟨_,_,ZIl,ZMa (Zub _ _),trivial,h⟩
 ·split at h
  ·obtain⟨z,hz,h⟩:=h;exact⟨_,_,bin_mul hz,ZMa (Zcb hz).2,trivial,h⟩
  ·exact⟨_,_,Zxy,ZMa (Zub _ _),trivial,h⟩
 ·obtain⟨z,hz,h⟩:=h;exact⟨_,_,ZTo hz,ZMa (Zjq hz),trivial,h⟩
 ·obtain⟨z,hz,h⟩:=h;exact⟨_,_,Z9r hz,ZMa (rem_inR hi hz),trivial,h⟩
 ·exact⟨_,_,Z9j,ZMa (Zub _ _),trivial,h⟩
 ·exact⟨_,_,Zuj,ZMa (Zub _ _),trivial,h⟩
 ·exact⟨_,_,bin_xor,ZMa (Zub _ _),trivial,h⟩
 ·exact⟨_,_,ZRd,ZPb,trivial,h⟩
 ·exact⟨_,_,Zip,ZPb,trivial,h⟩
 ·exact⟨_,_,ZSg,ZPb,trivial,h⟩
 ·exact⟨_,_,Zci,ZPb,trivial,h⟩
 ·exact⟨_,_,Z8g,ZPb,trivial,h⟩
 ·exact⟨_,_,bin_neq,ZPb,trivial,h⟩
 ·exact h.elim
theorem Zap {K:Nat} {σ:List (Nat×Value)} (hS:St K w0 v0 σ ℓ v a w) {d:Option Nat} {t t2 ty kt et:TypeId} {pos:String} {aft:Array Edge} {g:Option (Nat×Bool)} {x y:Operand} {r:Option Nat} (ht:P.underlying t=some (.map kt et)) (e1:ev σ x=some (.map r)) (e2:ev σ y=some (.map none)) :
  (execOp a.eval ⟨d,.binOp .eql t x y t2,ty,pos,aft,g⟩).run P w = .ok (.value (.bool r.isNone)) w:=by
 have h:∀ w:World,(Op.equal t (.map r) (.map none)).run P w = .ok r.isNone w:=λw=>by
  show (Op.equalIn (9999+1) t (.map r) (.map none)).run P w=_;unfold Op.equalIn
  cases r <;> simp[run_underlying ht]
 simp[execOp,hS.eval e1,hS.eval e2,eqGuard,binOp,h]
theorem binE_ok (hr:RelX N G w0 v0 U X f l a w γ v ℓ) {d:Option Nat} {op:BinOp} {t t' ty:TypeId} {pos:String} {aft:Array Edge} {g:Option (Nat×Bool)} {x y:Operand} {vx vy:V} {k:V→Ev Unit} {Post:Unit→Fr→Lo→Prop} (hx:RV v γ l vx (a.eval x)) (hy:RV v γ l vy (a.eval y))
  (h:Zj n (binE P op t vx vy k) f l Post):∃ z q,(execOp a.eval ⟨d,.binOp op t x y t',ty,pos,aft,g⟩).run P w = .ok (.value q) w∧RV v γ l z q∧z.ok U∧Zj n (k z) f l Post:=by
 obtain⟨σ,hs,e1,e2⟩:=hr.st.ev2 x y;unfold binE at h;split at h
 ·obtain⟨h1,h2⟩:=Zza hx;obtain⟨h3,h4⟩:=Zza hy;rw[h1]at e1;rw[h3]at e2;split at h
  ·obtain⟨z,hz,h⟩:=h;exact⟨_,_,Zw hs e1 e2 (Zsp hz),ZMa (ZUw h2 hz),trivial,h⟩
  ·obtain⟨z,hz,h⟩:=h;exact⟨_,_,Zw hs e1 e2 (Z3m hz),ZMa (Zmx h2 hz),trivial,h⟩
  ·split at h
   ·rename_i hk;have hk:=ZAc hk;subst hk;obtain⟨z,q,h5,h6,h7,h8⟩:=binI_ok (P:=P) (v:=v) (γ:=γ) (U:=U) t h2 h;exact⟨z,q,Zw hs e1 e2 h5,h6,h7,h8⟩
   ·exact h.elim
 ·have h1:=Z7e hx;have h2:=Z7e hy;rw[h1]at e1;rw[h2]at e2;split at h
  ·rename_i ht;split at h
   ·exact⟨_,_,ZYp hs e1 e2 (Z3u ht),ZPb,trivial,h⟩
   ·exact⟨_,_,ZYp hs e1 e2 (Z3y ht),ZPb,trivial,h⟩
   ·exact h.elim
  ·exact h.elim
 ·obtain⟨h1,h2⟩:=ZZc hx;obtain⟨h3,h4⟩:=ZZc hy;rw[h1]at e1;rw[h3]at e2;split at h
  ·obtain⟨z,hz,h⟩:=h;exact⟨_,_,ZSj hs e1 e2 (Zut hz),Z2i (Z6j hz),trivial,h⟩
  ·exact⟨_,_,ZSj hs e1 e2 str_eql,ZPb,trivial,h⟩
  ·exact⟨_,_,ZSj hs e1 e2 str_neq,ZPb,trivial,h⟩
  ·exact h.elim
 ·rename_i m;split at h
  ·rename_i ht;obtain⟨cs,hcs,hq⟩:=Z7c hx;obtain⟨c2,hc2,hq2⟩:=Z7c hy;have hcs:rMp.rel v cs m:=hcs;have hc2:c2=[.map none]:=hc2;subst hc2;have hq2:a.eval y = .map none:=hq2;rw[hq2]at e2;obtain⟨r,hr1,hr2⟩:∃ r,cs=[.map r]∧r.isNone=m.isNone:=by
    cases m with
    | none=>exact⟨none,hcs,rfl⟩
    | some m=>obtain⟨r,es,c,h1,_⟩:=hcs;exact⟨some r,h1,rfl⟩
   subst hr1;have hq:a.eval x = .map r:=hq;rw[hq]at e1;exact⟨.data .bool m.isNone,_,Zap hs ht e1 e2,(by rw[← hr2];exact ZPb),trivial,h⟩
  ·exact h.elim
 ·rename_i u;split at h
  ·rename_i ht;obtain⟨e,he,h⟩:=h;obtain⟨kk,st,L⟩:=e;obtain⟨c2,hc2,hq2⟩:=Z7c hy;have hc2:c2=[.map none]:=hc2;subst hc2;have hq2:a.eval y = .map none:=hq2;rw[hq2]at e2;obtain⟨cs,⟨y0,rfl,_,hy0⟩,hq⟩:=hx;have hq:a.eval x=y0:=hq;rw[hq]at e1;have hy0:=hy0 _ he
   cases L with
   | mp m =>
    have hy0:mpH (γ u) m y0:=hy0;obtain⟨r,hr1,hr2⟩:∃ r,y0 = .map r∧r.isNone=m.isNone:=by
     cases m with
     | none=>exact⟨none,hy0,rfl⟩
     | some m=>obtain⟨r,_,h1⟩:=hy0;exact⟨some r,h1,rfl⟩
    subst hr1;exact⟨.data .bool m.isNone,_,Zap hs ht e1 e2,(by rw[← hr2];exact ZPb),trivial,h⟩
   | _=>exact h.elim
  ·exact h.elim
 ·exact h.elim
end
end Go.Eng
namespace Go.Eng
open Go.RowKit
theorem T_one:∀ {t:T},t.agg=false→t.n=1
 | .int _,_ | .bool,_ | .flt _,_ | .str,_ | .slice _,_ | .ptr _,_=>rfl
 | .leaf 0,_ | .leaf 1,_ | .leaf (_+5),_=>rfl
theorem ZJc:∀ (g:Nat) {x z:V} {off n:Nat} {ag:Bool},Zga g x off n ag=some z→z.isAgg=false→z.size=1
 | 0,_,_,_,_,_,h,_=>by cases h
 | g+1,x,z,off,n,ag,h,hz=>by
  have whole:∀ {y:V},(y.isAgg=false→y.size=1)→(match Nat.beq off 0,Nat.beq y.size n,eqB y.isAgg ag with
    | true,true,true=>some y
    | _,_,_=>match y with
     | .agg c=>Zga g c off n ag
     | .data t x=>match Zac t x with
      | some c=>Zga g c off n ag
      | none=>none
     | _=>none)=some z→z.size=1:=by
   intro y h1 hy;split at hy
   ·cases hy;exact h1 hz
   ·split at hy
    ·exact ZJc g hy hz
    ·split at hy
     ·exact ZJc g hy hz
     ·cases hy
    ·cases hy
  cases x with
  | nl=>simp only[Zga]at h;cases h
  | cons a b =>
   simp only[Zga]at h;split at h
   ·exact ZJc g h hz
   ·split at h
    ·exact ZJc g h hz
    ·cases h
  | data t x=>exact whole (y:=.data t x) (λh=>T_one h) h
  | agg c=>exact whole (y:=.agg c) (λh=>by cases h) h
  | nilS=>exact whole (y:=.nilS) (λ_=>rfl) h
  | own u=>exact whole (y:=.own u) (λ_=>rfl) h
  | row u i hv cv t r=>exact whole (y:=.row u i hv cv t r) (λ_=>rfl) h
  | ptr u o=>exact whole (y:=.ptr u o) (λ_=>rfl) h
  | el u i cv t x o=>exact whole (y:=.el u i cv t x o) (λ_=>rfl) h
  | rp u i hv cv t r=>exact whole (y:=.rp u i hv cv t r) (λ_=>rfl) h
  | rel u i j hv cv t r x o=>exact whole (y:=.rel u i j hv cv t r x o) (λ_=>rfl) h
  | vp t x o=>exact whole (y:=.vp t x o) (λ_=>rfl) h
  | tup c=>exact whole (y:=.tup c) (λ_=>rfl) h
  | fn f c=>exact whole (y:=.fn f c) (λ_=>rfl) h
  | ifc f c=>exact whole (y:=.ifc f c) (λ_=>rfl) h
  | undef=>exact whole (y:=.undef) (λ_=>rfl) h
theorem ZQg {v:Zb} {a:T}:∀ {n:Nat} {x:(Zpa a n).den} {cs:List Value},0<n→(Zpa a n).rep.rel v cs x→a.rep.rels v cs (Z7a a n x)∧(Z7a a n x).length=n
 | 0,_,_,h,_=>by omega
 | 1,x,cs,_,h=>⟨Zmh h,rfl⟩
 | 2,x,cs,_,h=>by
  obtain⟨c1,c2,h1,h2,h3⟩:=h
  exact⟨⟨c1,c2,h1,h2,Zmh h3⟩,rfl⟩
 | k+3,x,cs,_,h=>by
  obtain⟨c1,c2,h1,h2,h3⟩:=h
  obtain⟨k1,k2⟩:=ZQg (n:=k+2) (by omega) h3
  exact⟨⟨c1,c2,h1,h2,k1⟩,by show (Z7a a (k+2) x.2).length+1=_;rw[k2]⟩
theorem Zgp {v:Zb} {a:T}:∀ {n:Nat} {x:(Zpa a n).den} {cs:List Value},0<n→a.rep.rels v cs (Z7a a n x)→(Zpa a n).rep.rel v cs x
 | 0,_,_,h,_=>by omega
 | 1,x,cs,_,h=>by
  obtain⟨c1,c2,rfl,h1,h2⟩:=h
  have h2:c2=[]:=h2
  subst h2
  rw[List.append_nil];exact h1
 | 2,x,cs,_,h=>by
  obtain⟨c1,c2,h1,h2,c3,c4,rfl,h3,h4⟩:=h
  have h4:c4=[]:=h4
  subst h4
  rw[List.append_nil]at h1
  exact⟨c1,c3,h1,h2,h3⟩
 | k+3,x,cs,_,h=>by
  obtain⟨c1,c2,h1,h2,h3⟩:=h
  exact⟨c1,c2,h1,h2,Zgp (n:=k+2) (by omega) h3⟩
theorem Zhp {a:T}:∀ {n:Nat} {x:(Zpa a n).den} {i:Nat} {y:a.den},i<n→Z7a a n (arrS a n x i y)=(Z7a a n x).set i y
 | 0,_,_,_,h=>by omega
 | 1,x,i,y,h=>by
  obtain rfl:i=0:=by omega
  rfl
 | 2,x,i,y,h=>by
  rcases (show i=0∨i=1 by omega) with rfl | rfl <;> rfl
 | k+3,x,0,y,h=>rfl
 | k+3,x,i+1,y,h=>by
  have:=Zhp (a:=a) (n:=k+2) (x:=x.2) (i:=i) (y:=y) (by omega)
  show x.1 :: Z7a a (k+2) (arrS a (k+2) x.2 i y)=(x.1 :: Z7a a (k+2) x.2).set (i+1) y
  rw[this];rfl
theorem ZYx {α:Type} {l:List α} {i:Nat} {y:α} (h:idx l (i:Int)=some y):l[i]? = some y:=by
 unfold idx at h;split at h
 ·simpa using h
 ·cases h
section
variable {P:Program} {N:Nat} {G:V→Value→Prop} {w0:Base} {v0:Zb} {U X:Nat→Prop} {f:Fr} {l:Lo} {a:Act} {w:World} {γ:Nat→Gh} {v:Zb} {ℓ:List Loc} {n:Nat}
theorem Zde {t:TypeId} {q:Nat×Bool} (h:szA P t=some q):Sized P t q.1 q.2:=by
 unfold szA at h;split at h
 ·rename_i i d hi hd
  cases h
  refine⟨λw=>by simp[sizeOf,typeInfo,hi],λw=>?_⟩
  cases d <;> simp[isAgg,run_underlying hd,aggD]
 ·cases h
theorem ZTl {t:TypeId} {q:TypeId×Nat} (h:ZMh P t=some q):Zaf P t q.1 q.2:=by
 unfold ZMh at h;split at h
 ·rename_i e he;split at h
  ·rename_i i hi
   cases h
   exact⟨λw=>run_underlying he w,λw=>by simp[sizeOf,typeInfo,hi]⟩
  ·cases h
 ·cases h
theorem RelX.loc (h:RelX N G w0 v0 U X f l a w γ v ℓ) {u:Nat} {e:En LV} (hu:lkE l u=some e):e.k=u∧∃ es,Zsa v γ l e es∧∀ x ∈ es,∃ i:Nat,ℓ[i]? = some x:=by
 obtain⟨E,hE,hp⟩:=h.lr;obtain⟨es,E',h1,h2,h3⟩:=Zzf hE hu;exact⟨(Zk hu).2,es,h1,λx hx=>List.getElem?_of_mem ((hp.trans h3).mem_iff.2 (List.mem_append_left _ hx))⟩
theorem ZWg (hs:St N w0 v0 [] ℓ v a w) {t:TypeId} {q:Nat×Bool} (ht:szA P t=some q) {b off:Nat} {cs:List Value} (hc:WAt w b off cs) {z:V} (hz:RR v γ l false z cs) (h1:z.size=q.1) (h2:z.isAgg=q.2) (h3:z.isAgg=false→z.size=1)
  {d:Option Nat} {ty:TypeId} {pos:String} {aft:Array Edge} {g:Option (Nat×Bool)} {x:Operand} (e:a.eval x = .pointer (some ⟨b,off,none⟩)):(execOp a.eval ⟨d,.load t x,ty,pos,aft,g⟩).run P w = .ok (.value (z.val cs)) w:=by
 obtain⟨σ,hs',e1⟩:=hs.ev1 x;rw[e]at e1;have ht:=Zde ht;have hl:=Z1c hz
 cases hag:z.isAgg with
 | true =>
  rw[← h2,hag,← h1,← hl]at ht;have:=ZOs (d:=d) (ty:=ty) (pos:=pos) (aft:=aft) (g:=g) hs' e1 ht rfl hc;rw[this];unfold V.val;rw[hag]
 | false =>
  have e3:=Z0g hz (h3 hag) hag;rw[e3]at hc;rw[← h2,hag]at ht;exact Zob (d:=d) (ty:=ty) (pos:=pos) (aft:=aft) (g:=g) hs' e1 ht hc
theorem Z4g {α:Type}:∀ {rows:List (Option Nat×Nat)} {m:List (List α)} {i:Nat} {p:Option Nat×Nat} {r:List α},rows[i]? = some p→m[i]? = some r→(Zq rows m)[i]? = some (.slice (mkA p.1) r.length p.2)
 | [],_,_,_,_,h,_=>by simp at h
 | _ :: _,[],_,_,_,_,h=>by simp at h
 | p :: ps,r :: rs,0,_,_,h,h'=>by simp at h h';subst h h';rfl
 | p :: ps,r :: rs,i+1,_,_,h,h'=>by
  simp only[List.getElem?_cons_succ]at h h'
  have:=Z4g (rows:=ps) (m:=rs) (i:=i) h h'
  simpa [Zq] using this
theorem ZTd {α:Type}:∀ {rows:List (Option Nat×Nat)} {m:List (List α)},rows.length=m.length→(Zq rows m).length=m.length
 | [],[],_=>rfl
 | _ :: _,_ :: _,h=>by simp[Zq];exact ZTd (by simpa using h)
 | [],_ :: _,h=>by cases h
 | _ :: _,[],h=>by cases h
theorem ZPe {ty:TypeId} {t:T}:∀ {rows:List (Option Nat×Nat)} {m:List (List t.den)} {es:List Loc} {i:Nat} {r:List t.den},Zra v ty t rows m es→m[i]? = some r→∃ p cs,rows[i]? = some p∧t.rep.rels v cs r∧.own p.1 ty t.n r.length p.2 cs ∈ es
 | [],[],_,_,_,_,h=>by simp at h
 | _ :: _,_ :: _,_,0,_,⟨cs,es',h1,h2,h3⟩,h=>by simp at h;subst h h2;exact⟨_,cs,rfl,h1,by simp⟩
 | _ :: _,_ :: _,_,i+1,_,⟨cs,es',h1,h2,h3⟩,h=>by
  simp at h
  obtain⟨p,cs',g1,g2,g3⟩:=ZPe h3 h
  subst h2
  exact⟨p,cs',by simpa using g1,g2,by simp[g3]⟩
 | [],_ :: _,_,_,_,k,_=>k.elim
 | _ :: _,[],_,_,_,k,_=>k.elim
theorem Z5q {b off k:Nat} {c:List Value} (h:WAt w b off c) (m:Nat) (hk:k+m≤c.length):WAt w b (off+k) ((c.drop k).take m):=by
 obtain⟨c0,T,fr,h1,h2⟩:=h;refine⟨c0,T,fr,h1,?_⟩;have hl:((c.drop k).take m).length=m:=by simp;omega
 rw[hl];have:((c0.toList.drop off).take c.length)=c:=h2
 conv=>rhs;rw[← this]
 rw[List.drop_take,List.drop_drop,List.take_take];congr 1;omega
theorem lst_at (hs:St N w0 v0 [] ℓ v a w) {b cap:Nat} {ty:TypeId} {t:T} {xs:List t.den} {cs cl:List Value} {j:Nat} (hj:ℓ[j]? = some (.own (some b) ty t.n (xs.length+1) cap (cs++cl))) (hr:t.rep.rels v cs xs) (hl:cl.length=t.n)
  (off:Nat) (c':List Value) (e:(cl.drop off).take c'.length=c') (hk:off+c'.length≤t.n):WAt w b (xs.length*t.n+off) c':=by
 have hcs:=Z6a hr;rw[ZK]at hcs;have:=ZGd hs hj (i:=xs.length) (c:=cl) (by rw[← hcs,List.drop_left,← hl,List.take_length]) (by omega) off c' e (by omega)
 rwa [Nat.zero_add]at this
theorem ZKn (hr:RelX N G w0 v0 U X f l a w γ v ℓ) {d:Option Nat} {t ty:TypeId} {pos:String} {aft:Array Edge} {g:Option (Nat×Bool)} {x:Operand} {p:V} {k:V→Ev Unit} {Post:Unit→Fr→Lo→Prop} (hp:RV v γ l p (a.eval x)) (hk:p.ok U)
  (h:Zj n (ldE P t p k) f l Post):∃ z y,(execOp a.eval ⟨d,.load t x,ty,pos,aft,g⟩).run P w = .ok (.value y) w∧RV v γ l z y∧z.ok U∧Zj n (k z) f l Post:=by
 unfold ldE at h;split at h
 ·exact h.elim
 ·rename_i q hq;split at h
  · -- a variable
   rename_i u off;obtain⟨e,he,h⟩:=h;obtain⟨y,hy0,_,hy⟩:=Z6 hp (λ_ e=>by cases e) rfl rfl
   cases hy0
   have hy:=hy e he;obtain⟨kk,st,L⟩:=e;obtain⟨hkk,es,hes,hmem⟩:=hr.loc he
   cases L with
   | box ty0 c =>
    simp only at h;obtain⟨b,cs,g1,g2,g3,rfl⟩:=hes;obtain⟨b',g4,g5⟩:=hy;have hkk:kk=u:=hkk;subst hkk;have g1:γ kk = .box b:=g1;rw[g1]at g4;cases g4;split at h
    ·rename_i z hz;have hc:c.ok U:=(hr.ul _ (Zk he).1).2.2;obtain⟨k1,k2,k3,k4,k5⟩:=ZMc FU hz g2 hc;obtain⟨i,hi⟩:=hmem _ (List.mem_singleton.2 rfl);have hlen:((cs.drop off).take q.1).length=q.1:=by simp;omega
     have hw:=hr.st.box hi off ((cs.drop off).take q.1) (by rw[hlen]);exact⟨z,_,ZWg hr.st hq hw k1 k3 k4 (ZJc FU hz) g5,ZYb k1 (λc e=>by subst e;exact k1),k2,h⟩
    ·exact h.elim
   | own _ _ _ _=>exact h.elim
   | mid _ _ _ _ _ _=>exact h.elim
   | mp _=>exact h.elim
   | it _ _=>exact h.elim
   | lst ty0 s xs c =>
    simp only at h;obtain⟨b,cap,cs,cl,g1,g2,g3,g4,g5,rfl⟩:=hes;obtain⟨b',cap',g6,g7⟩:=hy;have hkk:kk=u:=hkk;subst hkk;have g1:γ kk = .own (some b) cap:=g1;rw[g1]at g6;cases g6;split at h
    ·rename_i z hz;have hc:c.ok U:=(hr.ul _ (Zk he).1).2.2;obtain⟨k1,k2,k3,k4,k5⟩:=ZMc FU hz g3 hc;obtain⟨i,hi⟩:=hmem _ (List.mem_singleton.2 rfl);have hlen:((cl.drop off).take q.1).length=q.1:=by simp;omega
     have hw:=lst_at hr.st hi g2 g5 off ((cl.drop off).take q.1) (by rw[hlen]) (by omega);exact⟨z,_,ZWg hr.st hq hw k1 k3 k4 (ZJc FU hz) g7,ZYb k1 (λc e=>by subst e;exact k1),k2,h⟩
    ·exact h.elim
   | mat _ _ _ _ _=>exact h.elim
  · -- an element
   rename_i u i cv e x0 off;obtain⟨en,he,h⟩:=h;obtain⟨y,hy0,_,_,hy⟩:=Z6 hp (λ_ e=>by cases e) rfl rfl
   cases hy0
   have hy:=hy en he;obtain⟨kk,st,L⟩:=en;obtain⟨hkk,es,hes,hmem⟩:=hr.loc he
   cases L with
   | own ty0 s xs fz =>
    simp only at h;obtain⟨b,cap,g1,g2,g3,g4⟩:=hy;have hkk:kk=u:=hkk;subst hkk;split at h
    ·rename_i hcv;obtain⟨ys,c1,c2⟩:=g4 (eQ hcv);obtain⟨c3,c4⟩:=Z2 c1
     cases c3;cases c4
     split at h
     ·rename_i z hz;have key:∀ c,e.rep.rel v c x0→RR v γ l false z ((c.drop off).take q.1)∧z.ok U∧z.size=q.1∧z.isAgg=q.2∧off+q.1≤c.length:=λc hc=>ZMc FU hz (x:=.data e x0) hc trivial;have hcell:∃ c,e.rep.rel v c x0∧WAt w b (0+i*e.n+off) ((c.drop off).take q.1):=by
       cases fz with
       | false =>
        obtain⟨ob,cap',cs,q1,q2,rfl⟩:=hes;have q1:γ kk = .own ob cap':=q1;rw[g1]at q1;cases q1;obtain⟨j,hj⟩:=hmem _ (List.mem_singleton.2 rfl);have hrel:=ZHa q2 c2;rw[ZK]at hrel;refine⟨_,hrel,?_⟩;obtain⟨_,_,_,_,k5⟩:=key _ hrel;have hl:=Rep.len _ hrel;rw[ZK]at hl;have hlen:((((cs.drop (i*e.n)).take e.n).drop off).take q.1).length=q.1:=by
         simp only[List.length_take,List.length_drop]at k5 ⊢;omega
        exact ZGd hr.st hj rfl g3 off _ (by rw[hlen]) (by rw[hlen];omega)
       | true =>
        obtain⟨ob,cap',q1,q2,_⟩:=hes;have q1:γ kk = .own ob cap':=q1;rw[g1]at q1;cases q1;obtain⟨_,b2,o2,cs2,e2,h2,h3⟩:=ZIb q2 c2
        cases e2
        refine⟨cs2,h3,?_⟩;obtain⟨_,_,_,_,k5⟩:=key _ h3;rw[ZK]at h2;exact Z5q (hr.st.view h2) q.1 k5
      obtain⟨c,hc1,hc2⟩:=hcell;obtain⟨k1,k2,k3,k4,k5⟩:=key c hc1;exact⟨z,_,ZWg hr.st hq hc2 k1 k3 k4 (ZJc FU hz) g2,ZYb k1 (λc e=>by subst e;exact k1),k2,h⟩
     ·exact h.elim
    ·exact h.elim
   | box ty1 c1 =>
    obtain⟨b,g1,g2⟩:=hy;have hkk:kk=u:=hkk;subst hkk
    cases c1 with
    | data t' w' =>
     simp only at h;split at h
     ·rename_i m e' hu;split at h
      ·rename_i w2 hw2 ho hm0;have ho:=eQ ho;subst ho;obtain⟨c3,c4⟩:=Z2 hw2;subst c3;subst c4;obtain⟨y2,hy2,h⟩:=h;have hy2:idx (Z7a e m w') (i:Int)=some y2:=hy2
       dsimp only at h
       split at h
       ·rename_i z hz;obtain⟨b',cs,q1,q2,q3,rfl⟩:=hes;have q1:γ kk = .box b':=q1;rw[g1]at q1;cases q1;obtain⟨jj,hj⟩:=hmem _ (List.mem_singleton.2 rfl);obtain⟨k1,k2⟩:=ZQg (lB hm0) (show (Zpa e m).rep.rel v cs w' from q2);have hx:=ZYx hy2;have hrel:=ZHa k1 hx;rw[ZK]at hrel;obtain⟨p1,p2,p3,p4,p5⟩:=ZMc FU (γ:=γ) (l:=l) (U:=U) hz (x:=.data e y2) hrel trivial;have hcl:=Z6a k1;rw[ZK,k2]at hcl;have hi:i<m:=by rw[← k2];exact (List.getElem?_eq_some_iff.1 hx).1
        have hle:i*e.n+e.n≤cs.length:=by rw[hcl,← Nat.succ_mul];exact mR _ hi
        rw[List.drop_zero,List.take_take]at p1;have hlen:((cs.drop (i*e.n)).take (min q.1 e.n)).length=q.1:=by
         simp only[List.length_take,List.length_drop]at p5 ⊢;omega
        have hmin:min q.1 e.n=q.1:=by
         simp only[List.length_take,List.length_drop]at p5 hlen;omega
        rw[hmin]at p1 hlen;have hw:=hr.st.box hj (0+i*e.n+0) ((cs.drop (i*e.n)).take q.1) (by rw[hlen,Nat.zero_add,Nat.add_zero]);exact⟨z,_,ZWg hr.st hq hw p1 p3 p4 (ZJc FU hz) g2,ZYb p1 (λc e=>by subst e;exact p1),p2,h⟩
       ·exact h.elim
      ·exact h.elim
     ·exact h.elim
    | _=>exact h.elim
   | mid _ _ _ _ _ _=>exact h.elim
   | mp _=>exact h.elim
   | it _ _=>exact h.elim
   | lst _ _ _ _=>exact h.elim
   | mat _ _ _ _ _=>exact h.elim
  · -- behind a pointer to what is shown
   rename_i e x0 off;obtain⟨cs,h1,h2⟩:=Z8a hp (λ_ e=>by cases e);obtain⟨b,o,c,hA,hR,rfl⟩:=h1;split at h
   ·rename_i z hz;obtain⟨k1,k2,k3,k4,k5⟩:=ZMc FU hz (x:=.data e x0) (γ:=γ) (l:=l) (U:=U) hR trivial;exact⟨z,_,ZWg hr.st hq (Z5q (hr.st.view hA) q.1 k5) k1 k3 k4 (ZJc FU hz) h2,ZYb k1 (λc e=>by subst e;exact k1),k2,h⟩
   ·exact h.elim
  · -- a row's header
   rename_i u i hv cv e r;obtain⟨en,he,h⟩:=h;obtain⟨y,hy0,_,hy⟩:=Z6 hp (λ_ e=>by cases e) rfl rfl
   cases hy0
   have hy:=hy en he;obtain⟨kk,st,L⟩:=en;obtain⟨hkk,es,hes,hmem⟩:=hr.loc he
   cases L with
   | mat ty0 ty2 s m hv' =>
    simp only at h;have hkk:kk=u:=hkk;subst hkk;split at h
    ·rename_i b1 b2 b3;have b1:=eQ b1;have b2:=eQ b2;subst b1 b2;obtain⟨b,cap,rows,g1,g2,g3,g4⟩:=hy;obtain⟨m',c1,c2⟩:=g4 rfl;obtain⟨c3,c4⟩:=Z2 c1
     cases c3;cases c4
     obtain⟨ob,cap',rows',es2,q1,q2,rfl⟩:=hes;have q1:γ kk = .mat ob cap' rows':=q1;rw[g1]at q1;cases q1;obtain⟨p,cs,r1,r2,r3⟩:=ZPe q2 c2;obtain⟨j,hj⟩:=hmem _ List.mem_cons_self;have hh:=Z4g r1 c2;have hw:WAt w b (0+i*1) [.slice (mkA p.1) r.length p.2]:=by
      have hx:((Zq rows m).drop (i*1)).take 1=[.slice (mkA p.1) r.length p.2]:=by
       have hlt:=(List.getElem?_eq_some_iff.1 hh).1;rw[Nat.mul_one,List.drop_eq_getElem_cons hlt];simp[(List.getElem?_eq_some_iff.1 hh).2]
      have:=ZGd hr.st hj hx g3 0 [.slice (mkA p.1) r.length p.2] rfl (by simp)
      simpa using this
     have hrow:RR v γ l false (.row kk i hv' st e r) [.slice (mkA p.1) r.length p.2]:=by
      refine⟨_,rfl,rfl,λe' he'=>?_⟩;rw[he]at he';cases he';exact λ_=>⟨_,_,_,p.1,p.2,g1,r1,rfl,⟨r,c2,rfl⟩,λ_=>⟨m,c1,c2⟩⟩
     obtain⟨σ,hs',e1⟩:=hr.st.ev1 x;rw[g2]at e1;have ht:=Zde hq;rw[b3]at ht;refine⟨_,_,Zob hs' e1 ht hw,ZYb hrow (λc e=>by cases e),⟨hk.1,hk.2.1,hk.2.2⟩,h⟩
    ·exact h.elim
   | box _ _=>exact h.elim
   | mid _ _ _ _ _ _=>exact h.elim
   | mp _=>exact h.elim
   | it _ _=>exact h.elim
   | lst _ _ _ _=>exact h.elim
   | own _ _ _ _=>exact h.elim
  · -- an element of a row
   rename_i u i j hv cv e r x0 off;obtain⟨en,he,h⟩:=h;obtain⟨y,hy0,_,hy⟩:=Z6 hp (λ_ e=>by cases e) rfl rfl
   cases hy0
   have hy:=hy en he;obtain⟨kk,st,L⟩:=en;obtain⟨hkk,es,hes,hmem⟩:=hr.loc he
   cases L with
   | mat ty0 ty2 s m hv' =>
    simp only at h;have hkk:kk=u:=hkk;subst hkk;split at h
    ·rename_i b1 b2;have b1:=eQ b1;have b2:=eQ b2;subst b1 b2;split at h
     ·rename_i z hz;obtain⟨ob,cap,rows,bi,capi,g1,g2,g3,g4,g5,g6⟩:=hy rfl;obtain⟨⟨m',c1,c2⟩,cx⟩:=g6 rfl;obtain⟨c3,c4⟩:=Z2 c1
      cases c3;cases c4
      obtain⟨ob',cap',rows',es2,q1,q2,rfl⟩:=hes;have q1:γ kk = .mat ob' cap' rows':=q1;rw[g1]at q1;cases q1;obtain⟨p,cs,r1,r2,r3⟩:=ZPe q2 c2;rw[g2]at r1;cases r1;obtain⟨jj,hj⟩:=hmem _ (List.mem_cons_of_mem _ r3);have hrel:=ZHa r2 cx;rw[ZK]at hrel;obtain⟨k1,k2,k3,k4,k5⟩:=ZMc FU hz (x:=.data e x0) (γ:=γ) (l:=l) (U:=U) hrel trivial;have hl:=Rep.len _ hrel;rw[ZK]at hl;have hlen:((((cs.drop (j*e.n)).take e.n).drop off).take q.1).length=q.1:=by
       simp only[List.length_take,List.length_drop]at k5 ⊢;omega
      have hw:=ZGd hr.st hj rfl g5 off _ (by rw[hlen]) (by rw[hlen];omega);exact⟨z,_,ZWg hr.st hq hw k1 k3 k4 (ZJc FU hz) g3,ZYb k1 (λc e=>by subst e;exact k1),k2,h⟩
     ·exact h.elim
    ·exact h.elim
   | box _ _=>exact h.elim
   | mid _ _ _ _ _ _=>exact h.elim
   | mp _=>exact h.elim
   | it _ _=>exact h.elim
   | lst _ _ _ _=>exact h.elim
   | own _ _ _ _=>exact h.elim
  ·exact h.elim
end
end Go.Eng
namespace Go.Eng
open Go.RowKit
theorem Z6g {P:Program} {t:TypeId} {i:TypeInfo} (h:P.info? t=some i) (w:World):(sizeOf t).run P w = .ok i.size w:=by simp[sizeOf,typeInfo,h]
theorem ZCz (k:IntKind):kEq k k=true:=by cases k <;> rfl
theorem ZEw (k:FloatKind):fEqK k k=true:=by cases k <;> rfl
theorem ZFg:∀ t:T,T.beq t t=true
 | .int k=>ZCz k
 | .bool | .str=>rfl
 | .flt k=>ZEw k
 | .one a=>ZFg a
 | .slice a=>ZFg a
 | .ptr a=>ZFg a
 | .pair a b=>by simp only[T.beq,ZFg a,ZFg b]
 | .leaf i=>by simp[T.beq]
theorem ZWh {t:T} {x:t.den}:T.cast t t x=some x:=by
 unfold T.cast;have:∀ (b:Bool) (hb:T.beq t t=b),b=true→T.castB t t b hb x=some x:=by
  intro b hb e;subst e;rfl
 exact this _ rfl (ZFg t)
section
variable {P:Program} {N:Nat} {G:V→Value→Prop} {w0:Base} {v0:Zb} {U X:Nat→Prop} {f:Fr} {l:Lo} {a:Act} {w:World} {γ:Nat→Gh} {v:Zb} {ℓ:List Loc} {n:Nat}
variable {d:Option Nat} {ty:TypeId} {pos:String} {aft:Array Edge} {g:Option (Nat×Bool)}
theorem fldA_ok {s:TypeId} {k off:Nat} (h:fldA P s k=some off):ZFi P s k off:=by
 unfold fldA at h;split at h
 ·rename_i fs hfs;split at h
  ·rename_i fd hfd;split at h
   ·rename_i i hi;split at h
    ·rename_i hb
     cases h
     intro b o w;have h0:fs[k]? = some fd:=by rw[← Array.getElem?_toList];exact hfd
     have h1:¬ i.size=0:=by
      have h2:1≤i.size:=lB hb;omega
     simp[Instr.fieldAt,run_underlying hfs,h0,Instr.sureAddr,fieldPlace,Z6g hi,h1,ZLb]
    ·cases h
   ·cases h
  ·cases h
 ·cases h
theorem Zsc {b o:Nat}:plain (.pointer (some ⟨b,o,none⟩))=true:=rfl
theorem ZPh {ρ:Type} {p:V} {y:Value} {k:Ev ρ} {Post:ρ→Fr→Lo→Prop} (hp:RV v γ l p y) (hk:p.ok U) (h:Zj n (live p k) f l Post) :
  Zj n k f l Post∧∃ b o,y = .pointer (some ⟨b,o,none⟩)∧∀ off z,shift p off=some z→RV v γ l z (.pointer (some ⟨b,o+off,none⟩))∧z.ok U:=by
 unfold live at h;split at h
 ·rename_i u o;obtain⟨en,he,h⟩:=h;obtain⟨y,hy0,_,hy⟩:=Z6 hp (λ_ e=>by cases e) rfl rfl
  cases hy0
  have hy:=hy en he;obtain⟨kk,st,L⟩:=en
  cases L with
  | box _ _ =>
   obtain⟨b,g1,rfl⟩:=hy;refine⟨h,b,o,rfl,λoff z hz=>?_⟩
   cases hz
   refine⟨⟨[_],⟨_,rfl,Zsc,λe' he'=>?_⟩,rfl⟩,hk⟩;rw[he]at he';cases he';exact⟨b,g1,rfl⟩
  | own _ _ _ _=>exact h.elim
  | mid _ _ _ _ _ _=>exact h.elim
  | mp _=>exact h.elim
  | it _ _=>exact h.elim
  | lst _ s xs _ =>
   obtain⟨b,cap,g1,rfl⟩:=hy;refine⟨h,b,_,rfl,λoff z hz=>?_⟩
   cases hz
   refine⟨⟨[_],⟨_,rfl,Zsc,λe' he'=>?_⟩,rfl⟩,hk⟩;rw[he]at he';cases he';exact⟨b,cap,g1,by rw[Nat.add_assoc]⟩
  | mat _ _ _ _ _=>exact h.elim
 ·rename_i t x0 o;obtain⟨cs,h1,h2⟩:=Z8a hp (λ_ e=>by cases e);obtain⟨b,o',c,hA,hR,rfl⟩:=h1;refine⟨h,b,o'+o,h2,λoff z hz=>?_⟩
  cases hz
  exact⟨⟨[_],⟨b,o',c,hA,hR,by rw[Nat.add_assoc]⟩,rfl⟩,trivial⟩
 ·rename_i u i cv t x0 o;obtain⟨en,he,h⟩:=h;obtain⟨y,hy0,_,hc0,hy⟩:=Z6 hp (λ_ e=>by cases e) rfl rfl
  cases hy0
  have hy:=hy en he;obtain⟨kk,st,L⟩:=en
  cases L with
  | own _ s xs fz =>
   obtain⟨b,cap,g1,rfl,g3,g4⟩:=hy;refine⟨h,b,0+i*s.n+o,rfl,λoff z hz=>?_⟩
   cases hz
   refine⟨⟨[_],⟨_,rfl,Zsc,hc0,λe' he'=>?_⟩,rfl⟩,hk⟩;rw[he]at he';cases he';exact⟨b,cap,g1,by rw[Nat.add_assoc (0+i*s.n)],g3,g4⟩
  | box _ _=>exact h.elim
  | mid _ _ _ _ _ _=>exact h.elim
  | mp _=>exact h.elim
  | it _ _=>exact h.elim
  | lst _ _ _ _=>exact h.elim
  | mat _ _ _ _ _=>exact h.elim
 ·rename_i u i j hv cv t r x0 o;obtain⟨en,he,h⟩:=h;obtain⟨y,hy0,_,hy⟩:=Z6 hp (λ_ e=>by cases e) rfl rfl
  cases hy0
  have hy:=hy en he;obtain⟨kk,st,L⟩:=en
  cases L with
  | mat _ _ s m hv' =>
   simp only at h;split at h
   ·rename_i hb;have hb:=eQ hb;subst hb;obtain⟨ob,cap,rows,bi,capi,g1,g2,rfl,g4,g5,g6⟩:=hy rfl;refine⟨h,bi,0+j*s.n+o,rfl,λoff z hz=>?_⟩
    cases hz
    refine⟨⟨[_],⟨_,rfl,Zsc,λe' he'=>?_⟩,rfl⟩,hk⟩;rw[he]at he';cases he';exact λ_=>⟨ob,cap,rows,bi,capi,g1,g2,by rw[Nat.add_assoc (0+j*s.n)],g4,g5,g6⟩
   ·exact h.elim
  | box _ _=>exact h.elim
  | mid _ _ _ _ _ _=>exact h.elim
  | mp _=>exact h.elim
  | it _ _=>exact h.elim
  | lst _ _ _ _=>exact h.elim
  | own _ _ _ _=>exact h.elim
 ·exact h.elim
theorem Zes (hr:RelX N G w0 v0 U X f l a w γ v ℓ) {s:TypeId} {k0:Nat} {x:Operand} {p:V} {k:V→Ev Unit} {Post:Unit→Fr→Lo→Prop} (hp:RV v γ l p (a.eval x)) (hk:p.ok U)
  (h:Zj n (fldE P s k0 p k) f l Post):∃ z y,(execOp a.eval ⟨d,.fieldAddr s x k0,ty,pos,aft,g⟩).run P w = .ok (.value y) w∧RV v γ l z y∧z.ok U∧Zj n (k z) f l Post:=by
 unfold fldE at h;split at h
 ·rename_i off hoff;split at h
  ·rename_i z hz;obtain⟨h,b,o,e,hs⟩:=ZPh hp hk h;obtain⟨h1,h2⟩:=hs _ _ hz;obtain⟨σ,hσ,e1⟩:=hr.st.ev1 x;rw[e]at e1;exact⟨z,_,Ztk hσ e1 (fldA_ok hoff),h1,h2,h⟩
  ·exact h.elim
 ·exact h.elim
theorem Zxq (hr:RelX N G w0 v0 U X f l a w γ v ℓ) (hU:∀ k,U k→X k) (hX:X n) {t:TypeId} {x i:Operand} {o:Oper} {p:V} {κ:IntKind} {j:Int} {Post:Unit→Fr→Lo→Prop} (ho:o=⟨d,.indexAddr t x i,ty,pos,aft,g⟩) (hd:∀ k,o.dst=some k→k<N) (hp:RV v γ l p (a.eval x)) (hk:p.ok U)
  (hi:a.eval i = .int κ j) (h:Zj n (ixA P o t p j) f l Post):Zqg P N G w0 v0 X o a w Post:=by
 unfold ixA at h;split at h
 ·rename_i m e he;split at h
  ·rename_i inf hinf h0 h1;split at h
   ·rename_i z hz;obtain⟨h,b,o',e',hs⟩:=ZPh hp hk h;obtain⟨k1,k2⟩:=hs _ _ hz;obtain⟨σ,hσ,e1,e2⟩:=hr.st.ev2 x i;rw[e']at e1;rw[hi]at e2;have hA:ZMg P t m inf.size:=⟨e,λw=>run_underlying he w,λw=>Z6g hinf w⟩;subst ho;exact ZSb hr hU (Z5r hσ hA e1 e2 (of_decide_eq_true h0) (of_decide_eq_true h1) _ rfl) hd hX k1 (V.ok.mono hU k2) h
   ·exact h.elim
  ·exact h.elim
 ·exact h.elim
theorem ixA_ok (hr:RelX N G w0 v0 U X f l a w γ v ℓ) (hU:∀ k,U k→X k) (hX:X n) {t:TypeId} {x i:Operand} {o:Oper} {p:V} {κ:IntKind} {j:Int} {Post:Unit→Fr→Lo→Prop} (ho:o=⟨d,.indexAddr t x i,ty,pos,aft,g⟩) (hd:∀ k,o.dst=some k→k<N) (hp:RV v γ l p (a.eval x)) (hk:p.ok U)
  (hi:a.eval i = .int κ j) (h:Zj n (ixA P o t p j) f l Post):Z8 P N G w0 v0 X o a w Post:=(Zxq hr hU hX ho hd hp hk hi h).good
theorem alts_ok (hr:RelX N G w0 v0 U X f l a w γ v ℓ) (hU:∀ k,U k→X k) (hX:X n) {t:TypeId} {x i:Operand} {o:Oper} {p:V} {κ:IntKind} {j:Int} {Post:Unit→Fr→Lo→Prop} (ho:o=⟨d,.indexAddr t x i,ty,pos,aft,g⟩) (hd:∀ k,o.dst=some k→k<N) (hp:RV v γ l p (a.eval x)) (hk:p.ok U)
  (hi:a.eval i = .int κ j):∀ {m k:Nat},Zj n (alts P o t p j m k) f l Post→Z8 P N G w0 v0 X o a w Post:=by
 intro m
 induction m with
 | zero=>intro k h;exact h.elim
 | succ m ih =>
  intro k h;by_cases e:j=(k:Int)
  ·have h1:=h.1 (dT e);rw[← e]at h1;exact ixA_ok hr hU hX ho hd hp hk hi h1
  ·exact ih (h.2 (dFq e))
theorem Ztt (hr:RelX N G w0 v0 U X f l a w γ v ℓ) (hU:∀ k,U k→X k) (hX:X n) {t:TypeId} {x i:Operand} {o:Oper} {p:V} {κ:IntKind} {j:Int} {Post:Unit→Fr→Lo→Prop} (ho:o=⟨d,.indexAddr t x i,ty,pos,aft,g⟩) (hd:∀ k,o.dst=some k→k<N) (hp:RV v γ l p (a.eval x)) (hk:p.ok U)
  (hi:a.eval i = .int κ j) (h:Zj n (ixE P o t p j) f l Post):Zqg P N G w0 v0 X o a w Post:=by
 unfold ixE at h;split at h
 ·exact Zxq hr hU hX ho hd hp hk hi h
 ·rename_i q hq;obtain⟨σ,hσ,e1,e2⟩:=hr.st.ev2 x i;rw[hi]at e2;have hSl:=ZTl hq;split at h
  ·rename_i u;obtain⟨en,he,h⟩:=h;obtain⟨y,hy0,_,hy⟩:=Z6 hp (λ_ e=>by cases e) rfl rfl;have hy0:a.eval x=y:=(List.cons.inj hy0).1;rw[hy0]at e1;have hy:=hy en he;obtain⟨kk,st,L⟩:=en;obtain⟨hkk,es,hes,hmem⟩:=hr.loc he;have hkk:kk=u:=hkk;subst hkk;have hst:U kk:=hk
   cases L with
   | own ty0 s xs fz =>
    simp only at h;split at h
    ·rename_i hb;have hb:=eQ hb;obtain⟨yy,hyy,h⟩:=h;obtain⟨j0,j1,j2,j3⟩:=Zp hyy;obtain⟨ob,cap,g1,rfl⟩:=hy;have hob:∃ b,ob=some b:=by
      cases fz with
      | false =>
       obtain⟨ob',cap',cs,q1,q2,rfl⟩:=hes;have q1:γ kk = .own ob' cap':=q1;rw[g1]at q1;cases q1;obtain⟨jj,hj⟩:=hmem _ (List.mem_singleton.2 rfl);exact Z5c hr.st hj (by omega)
      | true =>
       obtain⟨ob',cap',q1,q2,_⟩:=hes;have q1:γ kk = .own ob' cap':=q1;rw[g1]at q1;cases q1;obtain⟨_,b2,o2,cs2,e2,h2,h3⟩:=ZIb q2 j1
       cases ob with
       | none=>cases e2
       | some b=>exact⟨b,rfl⟩
     obtain⟨b,rfl⟩:=hob;have hc0:∃ c,s.rep.rel v c yy:=by
      cases fz with
      | false=>obtain⟨_,_,cs,_,q2,_⟩:=hes;exact⟨_,ZHa q2 j1⟩
      | true=>obtain⟨_,_,_,q2,_⟩:=hes;obtain⟨_,_,_,cs,_,_,h3⟩:=ZIb q2 j1;exact⟨cs,h3⟩
     subst ho;have hrun:=Zxa (d:=d) (ty:=ty) (pos:=pos) (aft:=aft) (g:=g) hσ e1 e2 hSl j0 (by exact j2);rw[hb]at hrun;refine ZSb hr hU hrun hd hX (x:=.el kk j.toNat st s yy 0) ⟨[_],⟨_,rfl,Zsc,hc0,λe' he'=>?_⟩,rfl⟩ ⟨hU _ hst,(hr.ul _ (Zk he).1).2.1⟩ h;rw[he]at he';cases he';exact⟨b,cap,g1,rfl,j3,λ_=>⟨xs,by unfold Zkc;exact ZWh,j1⟩⟩
    ·exact h.elim
   | mat ty0 ty2 s m hv =>
    simp only at h;split at h
    ·rename_i hb;have hb:=eQ hb;obtain⟨yy,hyy,h⟩:=h;obtain⟨j0,j1,j2,j3⟩:=Zp hyy;obtain⟨ob,cap,rows,g1,rfl⟩:=hy;obtain⟨ob',cap',rows',es2,q1,q2,rfl⟩:=hes;have q1:γ kk = .mat ob' cap' rows':=q1;rw[g1]at q1;cases q1;obtain⟨jj,hj⟩:=hmem _ List.mem_cons_self;obtain⟨b,rfl⟩:=Z5c hr.st hj (by omega);subst ho;have hrun:=Zxa (d:=d) (ty:=ty) (pos:=pos) (aft:=aft) (g:=g) hσ e1 e2 hSl j0 (by exact j2);rw[hb]at hrun;refine ZSb hr hU hrun hd hX (x:=.rp kk j.toNat hv st s yy) ⟨[_],⟨_,rfl,Zsc,λe' he'=>?_⟩,rfl⟩ ⟨hU _ hst,?_,(hr.ul _ (Zk he).1).2.1⟩ h
     ·rw[he]at he';cases he';exact⟨b,cap,rows,g1,rfl,j3,λ_=>⟨m,by unfold ZZb;exact ZWh,j1⟩⟩
     ·exact (hr.ul _ (Zk he).1).2.2
    ·exact h.elim
   | mp _=>exact h.elim
   | it _ _=>exact h.elim
   | lst ty0 s xs c =>
    simp only at h;split at h
    ·rename_i hb;have hb:=eQ hb;obtain⟨yy,hyy,h⟩:=h;unfold Z6h at hyy;split at hyy
     ·rename_i hj;subst hj;obtain⟨ob,cap,g1,rfl⟩:=hy;obtain⟨b,cap',cs,cl,q1,q2,q3,q4,q5,rfl⟩:=hes;have q1:γ kk = .own (some b) cap':=q1;rw[g1]at q1;cases q1;subst ho;have hrun:=Zxa (d:=d) (ty:=ty) (pos:=pos) (aft:=aft) (g:=g) hσ e1 e2 hSl (by omega) (by omega);rw[hb]at hrun;refine ZSb hr hU hrun hd hX (x:=.ptr kk 0) ⟨[_],⟨_,rfl,Zsc,λe' he'=>?_⟩,rfl⟩ (hU _ hst) h;rw[he]at he';cases he';exact⟨b,cap,g1,by simp⟩
     ·cases hyy
    ·exact h.elim
   | mid ty0 ty2 s m hv smid =>
    simp only at h;split at h
    ·rename_i hb;have hb:=eQ hb;obtain⟨yy,hyy,h⟩:=h;obtain⟨j0,j1,j2,j3⟩:=Zp hyy;obtain⟨ob,cap,rows,g1,rfl⟩:=hy;obtain⟨ob',cap',rows',es2,hsm,es3,q1,q2,q3,rfl⟩:=hes;have q1:γ kk = .mat ob' cap' rows':=q1;rw[g1]at q1;cases q1;obtain⟨jj,hj⟩:=hmem _ List.mem_cons_self;obtain⟨b,rfl⟩:=Z5c hr.st hj (by omega);subst ho;have hrun:=Zxa (d:=d) (ty:=ty) (pos:=pos) (aft:=aft) (g:=g) hσ e1 e2 hSl j0 (by exact j2);rw[hb]at hrun;refine ZSb hr hU hrun hd hX (x:=.rp kk j.toNat hv st s yy) ⟨[_],⟨_,rfl,Zsc,λe' he'=>?_⟩,rfl⟩ ⟨hU _ hst,?_,(hr.ul _ (Zk he).1).2.1⟩ h
     ·rw[he]at he';cases he';exact⟨b,cap,rows,g1,rfl,j3,λ_=>⟨m,by unfold ZZb;exact ZWh,j1⟩⟩
     ·exact (hr.ul _ (Zk he).1).2.2
    ·exact h.elim
   | box _ _=>exact h.elim
  ·rename_i s xs;obtain⟨qa,m,c,hy,hR⟩:=Z0l hp;rw[hy]at e1;split at h
   ·rename_i hb;have hb:=eQ hb;obtain⟨yy,hyy,h⟩:=h;obtain⟨j0,j1,j2,j3⟩:=Zp hyy;obtain⟨e3,b2,o2,cs2,rfl,h2,h3⟩:=ZIb hR j1;subst ho;have hrun:=Zxa (d:=d) (ty:=ty) (pos:=pos) (aft:=aft) (g:=g) hσ e1 e2 hSl j0 (by rw[e3];exact j2);rw[hb]at hrun;rw[ZK]at h2;exact ZSb hr hU hrun hd hX (x:=.vp s yy 0) ⟨[_],⟨b2,_,cs2,h2,h3,rfl⟩,rfl⟩ trivial h
   ·exact h.elim
  ·rename_i m;obtain⟨cs,h1,h2⟩:=Z7c hp;have h1:Zu.rel v cs m:=h1;obtain⟨qa,n',k',rfl⟩:=ZGa h1;have hy:a.eval x = .slice qa n' k':=h2;rw[hy]at e1;split at h
   ·rename_i hb;have hb:=eQ hb;obtain⟨yy,hyy,h⟩:=h;obtain⟨j0,j1,j2,j3⟩:=Zp hyy;obtain⟨e3,b2,o2,cs2,rfl,h2,h3⟩:=ZIb (A:=Zd .u64) h1 j1;subst ho;have hrun:=Zxa (d:=d) (ty:=ty) (pos:=pos) (aft:=aft) (g:=g) hσ e1 e2 hSl j0 (by rw[e3];exact j2);rw[hb]at hrun;exact ZSb hr hU hrun hd hX (x:=.vp (.int .u64) yy 0) ⟨[_],⟨b2,_,cs2,h2,h3,rfl⟩,rfl⟩ trivial h
   ·exact h.elim
  ·rename_i m;obtain⟨cs,h1,h2⟩:=Z7c hp;have h1:Zeb.rel v cs m:=h1;obtain⟨qa,n',k',rfl⟩:=Zwd h1;have hy:a.eval x = .slice qa n' k':=h2;rw[hy]at e1;split at h
   ·rename_i hb;have hb:=eQ hb;obtain⟨yy,hyy,h⟩:=h;obtain⟨j0,j1,j2,j3⟩:=Zp hyy;obtain⟨e3,b2,o2,cs2,rfl,h2,h3⟩:=ZIb (A:=Zd .u32) h1 j1;subst ho;have hrun:=Zxa (d:=d) (ty:=ty) (pos:=pos) (aft:=aft) (g:=g) hσ e1 e2 hSl j0 (by rw[e3];exact j2);rw[hb]at hrun;exact ZSb hr hU hrun hd hX (x:=.vp (.int .u32) yy 0) ⟨[_],⟨b2,_,cs2,h2,h3,rfl⟩,rfl⟩ trivial h
   ·exact h.elim
  ·rename_i u i' hv cv s r;obtain⟨en,he,h⟩:=h;obtain⟨y,hy0,_,hy⟩:=Z6 hp (λ_ e=>by cases e) rfl rfl;have hy0:a.eval x=y:=(List.cons.inj hy0).1;rw[hy0]at e1;have hy:=hy en he;obtain⟨kk,st,L⟩:=en;obtain⟨hkk,es,hes,hmem⟩:=hr.loc he;have hkk:kk=u:=hkk;subst hkk
   cases L with
   | mat ty0 ty2 s' m hv' =>
    simp only at h;split at h
    ·rename_i b1 b2 b3;have b1:=eQ b1;have b2:=eQ b2;have b3:=eQ b3;subst b1 b2;obtain⟨yy,hyy,h⟩:=h;obtain⟨j0,j1,j2,j3⟩:=Zp hyy;obtain⟨ob,cap,rows,obi,capi,g1,g2,rfl,g4,g5⟩:=hy rfl;obtain⟨m',c1,c2⟩:=g5 rfl;obtain⟨c3,c4⟩:=Z2 c1
     cases c3;cases c4
     obtain⟨ob',cap',rows',es2,q1,q2,rfl⟩:=hes;have q1:γ kk = .mat ob' cap' rows':=q1;rw[g1]at q1;cases q1;obtain⟨p',cs,r1,r2,r3⟩:=ZPe q2 c2;rw[g2]at r1;cases r1;obtain⟨jj,hj⟩:=hmem _ (List.mem_cons_of_mem _ r3);obtain⟨bi,hbi⟩:=Z5c hr.st hj (by omega);have hbi:obi=some bi:=hbi;subst hbi;subst ho;have hrun:=Zxa (d:=d) (ty:=ty) (pos:=pos) (aft:=aft) (g:=g) hσ e1 e2 hSl j0 j2;rw[b3]at hrun;refine ZSb hr hU hrun hd hX (x:=.rel kk i' j.toNat hv' st s r yy 0) ⟨[_],⟨_,rfl,Zsc,λe' he'=>?_⟩,rfl⟩ ⟨hU _ hk.1,hU _ hk.2.1,hU _ hk.2.2⟩ h;rw[he]at he';cases he';exact λ_=>⟨_,_,_,bi,capi,g1,g2,rfl,g4,j3,λ_=>⟨⟨m,c1,c2⟩,j1⟩⟩
    ·rename_i b1 b2 b3;have b1:=eQ b1;have b3:=eQ b3;subst b1;split at h
     ·rename_i m' c1;obtain⟨c3,c4⟩:=Z2 c1
      cases c3;cases c4
      obtain⟨r',hr',h⟩:=h;obtain⟨_,i1,_,_⟩:=Zp hr';rw[tN]at i1;obtain⟨yy,hyy,h⟩:=h;obtain⟨j0,j1,j2,j3⟩:=Zp hyy;obtain⟨ob,cap,rows,obi,capi,g1,g2,rfl,⟨ri,g4,g6⟩,g5⟩:=hy rfl;rw[i1]at g4;cases g4;obtain⟨ob',cap',rows',es2,q1,q2,rfl⟩:=hes;have q1:γ kk = .mat ob' cap' rows':=q1;rw[g1]at q1;cases q1;obtain⟨p',cs,r1,r2,r3⟩:=ZPe q2 i1;rw[g2]at r1;cases r1;obtain⟨jj,hj⟩:=hmem _ (List.mem_cons_of_mem _ r3);obtain⟨bi,hbi⟩:=Z5c hr.st hj (by omega);have hbi:obi=some bi:=hbi;subst hbi;subst ho;rw[← g6]at e1;have hrun:=Zxa (d:=d) (ty:=ty) (pos:=pos) (aft:=aft) (g:=g) hσ e1 e2 hSl j0 j2;rw[b3]at hrun;refine ZSb hr hU hrun hd hX (x:=.rel kk i' j.toNat hv' st _ r' yy 0) ⟨[_],⟨_,rfl,Zsc,λe' he'=>?_⟩,rfl⟩ ⟨hU _ hk.1,hU _ hk.2.1,(hr.ul _ (Zk he).1).2.1⟩ h;rw[he]at he';cases he';exact λ_=>⟨_,_,_,bi,capi,g1,g2,rfl,⟨r',i1,rfl⟩,j3,λ_=>⟨⟨m,c1,i1⟩,j1⟩⟩
     ·exact h.elim
    ·exact h.elim
   | box _ _=>exact h.elim
   | mid _ _ _ _ _ _=>exact h.elim
   | mp _=>exact h.elim
   | it _ _=>exact h.elim
   | lst _ _ _ _=>exact h.elim
   | own _ _ _ _=>exact h.elim
  ·exact h.elim
theorem ixE_ok (hr:RelX N G w0 v0 U X f l a w γ v ℓ) (hU:∀ k,U k→X k) (hX:X n) {t:TypeId} {x i:Operand} {o:Oper} {p:V} {κ:IntKind} {j:Int} {Post:Unit→Fr→Lo→Prop} (ho:o=⟨d,.indexAddr t x i,ty,pos,aft,g⟩) (hd:∀ k,o.dst=some k→k<N) (hp:RV v γ l p (a.eval x)) (hk:p.ok U)
  (hi:a.eval i = .int κ j) (h:Zj n (ixE P o t p j) f l Post):Z8 P N G w0 v0 X o a w Post:=(Ztt hr hU hX ho hd hp hk hi h).good
theorem lenE_ok (hr:RelX N G w0 v0 U X f l a w γ v ℓ) {t:TypeId} {x:Operand} {p:V} {k:Nat→Ev Unit} {Post:Unit→Fr→Lo→Prop} (hp:RV v γ l p (a.eval x)) (h:Zj n (lenE P t p k) f l Post) :
  ∃ m:Nat,(execOp a.eval ⟨d,.call ⟨.builtin .len,#[x],#[t]⟩,ty,pos,aft,g⟩).run P w = .ok (.value (.int .i64 m)) w∧inR .i64 (m:Int)∧Zj n (k m) f l Post:=by
 obtain⟨σ,hσ,e1⟩:=hr.st.ev1 x;unfold lenE at h;split at h
 ·obtain⟨h1,h2⟩:=ZZc hp;rw[h1]at e1;split at h
  ·rename_i ht;exact⟨_,ZHs hσ e1 rfl ht,str_inR h2,h⟩
  ·exact h.elim
 ·split at h
  ·exact h.elim
  ·rename_i q hq;have hSl:=ZTl hq;split at h
   ·rename_i u _;obtain⟨en,he,h⟩:=h;obtain⟨y,hy0,_,hy⟩:=Z6 hp (λ_ e=>by cases e) rfl rfl;have hy0:a.eval x=y:=(List.cons.inj hy0).1;rw[hy0]at e1;have hy:=hy en he;obtain⟨kk,st,L⟩:=en;obtain⟨hkk,es,hes,hmem⟩:=hr.loc he;have hkk:kk=u:=hkk;subst hkk
    cases L with
    | own ty0 s xs fz =>
     obtain⟨ob,cap,g1,rfl⟩:=hy;refine⟨_,Zbe hσ e1 rfl hSl,?_,h⟩
     cases fz with
     | false =>
      obtain⟨ob',cap',cs,q1,q2,rfl⟩:=hes;obtain⟨jj,hj⟩:=hmem _ (List.mem_singleton.2 rfl);exact Zzk hr.st hj
     | true =>
      obtain⟨ob',cap',q1,q2,_⟩:=hes;exact Zig q2
    | mat ty0 ty2 s m hv =>
     obtain⟨ob,cap,rows,g1,rfl⟩:=hy;obtain⟨ob',cap',rows',es2,q1,q2,rfl⟩:=hes;obtain⟨jj,hj⟩:=hmem _ List.mem_cons_self;exact⟨_,Zbe hσ e1 rfl hSl,Zzk hr.st hj,h⟩
    | box _ _=>exact h.elim
    | mid _ _ _ _ _ _=>exact h.elim
    | mp _=>exact h.elim
    | it _ _=>exact h.elim
    | lst ty0 s xs c =>
     obtain⟨ob,cap,g1,rfl⟩:=hy;obtain⟨b,cap',cs,cl,q1,q2,q3,q4,q5,rfl⟩:=hes;obtain⟨jj,hj⟩:=hmem _ (List.mem_singleton.2 rfl);exact⟨_,Zbe hσ e1 rfl hSl,Zzk hr.st hj,h⟩
   ·rename_i s xs _;obtain⟨qa,m,c,hy,hR⟩:=Z0l hp;have hm:m=xs.length:=by obtain⟨_,_,e,_⟩:=hR;cases e;rfl
    rw[hy,hm]at e1;rw[hm]at hR;exact⟨_,Zbe hσ e1 rfl hSl,Zig hR,h⟩
   ·obtain⟨cs,h1,h2⟩:=hp;have h1:cs=[.slice none 0 0]:=h1;subst h1;have h2:a.eval x = .slice none 0 0:=h2;rw[h2]at e1;exact⟨0,Zbe hσ e1 rfl hSl,Zva.2 ⟨by omega,by omega⟩,h⟩
   ·rename_i m _;obtain⟨cs,h1,h2⟩:=Z7c hp;have h1:Zu.rel v cs m:=h1;obtain⟨qa,n',k',rfl⟩:=ZGa h1;have hy:a.eval x = .slice qa n' k':=h2;have hm:n'=(Zc 18446744073709551616 m).length:=by obtain⟨_,_,e,_⟩:=h1;cases e;rfl
    rw[hy,hm]at e1;rw[hm]at h1;exact⟨_,Zbe hσ e1 rfl hSl,Zig (A:=Zd .u64) h1,h⟩
   ·rename_i m _;obtain⟨cs,h1,h2⟩:=Z7c hp;have h1:Zeb.rel v cs m:=h1;obtain⟨qa,n',k',rfl⟩:=Zwd h1;have hy:a.eval x = .slice qa n' k':=h2;have hm:n'=(Zc 4294967296 m).length:=by obtain⟨_,_,e,_⟩:=h1;cases e;rfl
    rw[hy,hm]at e1;rw[hm]at h1;exact⟨_,Zbe hσ e1 rfl hSl,Zig (A:=Zd .u32) h1,h⟩
   ·rename_i u i' hv cv s r _;obtain⟨en,he,h⟩:=h;obtain⟨y,hy0,_,hy⟩:=Z6 hp (λ_ e=>by cases e) rfl rfl;have hy0:a.eval x=y:=(List.cons.inj hy0).1;rw[hy0]at e1;have hy:=hy en he;obtain⟨kk,st,L⟩:=en;obtain⟨hkk,es,hes,hmem⟩:=hr.loc he;have hkk:kk=u:=hkk;subst hkk
    cases L with
    | mat ty0 ty2 s' m hv' =>
     simp only at h;split at h
     ·rename_i b1;have b1:=eQ b1;subst b1;obtain⟨ob,cap,rows,obi,capi,g1,g2,rfl,⟨ri,g4,g4'⟩,g5⟩:=hy rfl;obtain⟨ob',cap',rows',es2,q1,q2,rfl⟩:=hes;have q1:γ kk = .mat ob' cap' rows':=q1;rw[g1]at q1;cases q1;obtain⟨p',cs,r1,r2,r3⟩:=ZPe q2 g4;obtain⟨jj,hj⟩:=hmem _ (List.mem_cons_of_mem _ r3);have:=Zzk hr.st hj;rw[g4']at this;exact⟨_,Zbe hσ e1 rfl hSl,this,h⟩
     ·exact h.elim
    | box _ _=>exact h.elim
    | mid _ _ _ _ _ _=>exact h.elim
    | mp _=>exact h.elim
    | it _ _=>exact h.elim
    | lst _ _ _ _=>exact h.elim
    | own _ _ _ _=>exact h.elim
   ·exact h.elim
theorem ZFp {t:TypeId} {q:Nat×Bool} (ht:szA P t=some q) {x z:V} {off:Nat} {cs:List Value} (hg:Zga FU x off q.1 q.2=some z) (hx:RR v γ l false x cs) (hk:x.ok U) (w:World) :
  (part t cs.toArray off).run P w = .ok (z.val ((cs.drop off).take q.1)) w∧RR v γ l false z ((cs.drop off).take q.1)∧z.ok U:=by
 obtain⟨k1,k2,k3,k4,k5⟩:=ZMc FU hg hx hk;refine⟨?_,k1,k2⟩;have hS:=Zde ht;unfold part
 cases hag:q.2 with
 | true =>
  have h1:=hS.agg w;rw[hag]at h1;have h3:(cs.toArray.extract off (off+q.1))=((cs.drop off).take q.1).toArray:=by
   apply Array.ext';rw[Array.toList_extract];simp[List.extract,List.take_drop]
  simp[h1,hS.size,V.val,k4,hag]
 | false =>
  have h1:=hS.agg w;rw[hag]at h1;have h2:=ZJc FU hg (by rw[k4,hag]);have h3:=Z0g k1 h2 (by rw[k4,hag]);have h4:cs[off]? = some (z.val ((cs.drop off).take q.1)):=by
   have:((cs.drop off).take q.1)[0]? = some (z.val ((cs.drop off).take q.1)):=by
    conv=>lhs;rw[h3]
    rfl
   rw[List.getElem?_take_of_lt (by omega),List.getElem?_drop]at this
   simpa using this
  have h4':cs.toArray[off]? = some (z.val ((cs.drop off).take q.1)):=by simpa using h4
  simp[h1,h4']
end
end Go.Eng
