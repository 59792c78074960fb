/- Lemmas towards the statement: the engine of the walks, the functions' models, laws and walks, part 6. Conditions: as each states. -/
import Derived.Shelf.Strings.Builder1
import Derived.Shelf.Strings.Repeat
import Derived.Test.YtceoncclknebbaaGreatProg
import Derived.Test.YtceoncclknebbaaGreatChE
set_option linter.all false
set_option maxRecDepth 100000
namespace Go.Eng
open Go.RowKit
def endO (ty:TypeId) (t:T) (c:V) (l:Lo):Option (List t.den):=match c with
 | .cons (.own u) .nl=>match lkE l u with
  | some ⟨_,_,.own ty' t' xs false⟩=>match Nat.beq ty' ty with
   | true=>ZHb t' t xs
   | false=>none
  | _=>none
 | _=>none
def ZKk (C:Cf) (inl:Inl) (fn:Func) (ann:Ann) (ats:List T) (ty:TypeId) (t:T) (x:Zy ats):Option (List t.den):=match fn.body with
 | some c=>Zkb C (ZGe C inl 20) fn.results.toList 0 fn.ntmps c _ ann (Z9a 0 0 (ZRb ats x)) [] 1 ⟨fun _ _ _=>none,fun _ _ _ _=>none,fun c l _=>endO ty t c l⟩
 | none=>none
theorem Zlu {C:Cf} (hC:CfOK C) {inl:Inl} (hinl:ZMb C inl) {f:FuncId} {fn:Func} {ann:Ann} {ats:List T} {ty:TypeId} {t:T} {x:Zy ats} {z:List t.den} (hf:C.P.funcs[f]? = some fn) (hl:Nat.ble ats.length fn.ntmps=true) (h:ZKk C inl fn ann ats ty t x=some z)
  {w:World} {v:Zb} {vals:List Value} (hv:VIn v w) (ha:ZDa v ats vals x):RetO C.P f vals.toArray w v fun y v' w'=>OwnR t.rep ty t.n z w y v' w':=by
 unfold ZKk at h;split at h
 ·rename_i c hc;obtain ⟨h1,h2,h3⟩:=Zff (γ:=fun _=>.box 0) (l:=[]) (U:=(· < 0)) ha;have hK:vals.length≤fn.ntmps:=by rw [h3];exact Nat.le_of_ble_eq_true hl
  refine Zpk hv hf hc rfl hK fun a hS=>?_;have hr:RelX fn.ntmps (fun _ _=>False) w v (· < 1) (· < 1) (Z9a 0 0 (ZRb ats x)) [] a w (fun _=>.box 0) v []:=by
   refine ⟨⟨hS.size,hS.dfr,fun t x h=>(by cases h),hS.ext,hS.vst,hS.loc,hS.nd⟩,fun t e he=>?_,⟨[],trivial,List.Perm.refl _⟩,List.nodup_nil,fun t e he=>?_,fun e he=>(by cases he),fun x y h=>h.elim⟩
   ·obtain ⟨y,q1,q2,q3,q4,q5⟩:=Z7b h1 h2 he;have:=hS.fr t y ?_
    ·rw [this];exact q3
    ·have q2:vals[t-0]? = some y:=q2;have:=ZQh (k:=0) (t:=t) (y:=y) (by simpa using q2)
     rwa [Nat.zero_add] at this
   ·obtain ⟨y,q1,q2,q3,q4,q5⟩:=Z7b h1 h2 he;exact ⟨V.ok.mono (fun k h=>absurd h (Nat.not_lt_zero k)) q4,by show e.st<1;omega⟩
  refine ZAi hC (Z0i hC hinl 20) c h ⟨_,_,_,hr⟩ ⟨fun f' l' n' a' w' hp hn' ho' hr'=>(by cases hp),fun i f' l' n' a' w' hp hn' ho' hr'=>(by cases hp),fun c l' n' a' w' hp hn' ho' hr'=>?_⟩;obtain ⟨γ',v',ℓ',vals',hr',hc',hk',hres⟩:=hr';have hp:endO ty t c l'=some z:=hp;unfold endO at hp;split at hp
  ·rename_i u;split at hp
   ·rename_i kk st ty' t' xs he;split at hp
    ·rename_i hty;have hty:=Nat.eq_of_beq_eq_true hty;subst hty;obtain ⟨e1,e2⟩:=ZX hp
     cases e1;cases e2
     obtain ⟨c1,xs1,rfl,⟨y,rfl,_,hy⟩,hx1⟩:=hc';have hx1:xs1=[]:=hx1;subst hx1;obtain ⟨ob,cap,g1,rfl⟩:=hy _ he;obtain ⟨hkk,es,hes,hmem⟩:=hr'.loc he;have hkk:kk=_:=hkk;subst hkk;obtain ⟨ob',cap',cs,q1,q2,rfl⟩:=hes;have q1:γ' kk = .own ob' cap':=q1;rw [g1] at q1;cases q1;obtain ⟨jj,hj⟩:=hmem _ List.mem_cons_self;obtain ⟨hh,hb⟩:=hr'.st.loc _ (List.mem_of_getElem? hj);refine ⟨hr'.st.dfr,_,ZIf hres,_,v',rfl,hr'.st.ext.ext,hr'.st.vst.ext,ob,_,cap,cs,rfl,hh,fun b e=>?_,q2,rfl⟩;obtain ⟨h1,h2⟩:=hb b e;rcases h1 with h1 | h1
     ·exact ⟨h1,h2⟩
     ·cases h1
    ·cases hp
   ·cases hp
  ·cases hp
 ·cases h
theorem cono_k {C:Cf} (hc:CL C.P C.cons) (ho:OL C.P C.owns) (hi:IL C.P C.ins) (hm:ML C.P C.meths) {inl:Inl} (hn:NL C.P inl) {f:FuncId} {fn:Func} {ann:Ann} {con:ConO} (hf:C.P.funcs[f]? = some fn) (hen:ZG C.P f) (hl:Nat.ble con.args.length fn.ntmps=true)
  (h:∀ x z,con.F x=some z→ZKk C inl fn ann con.args con.ty con.t x=some z) (hq:QL C.P C.omats:=by exact trivial) (hb:BL C.P C.boxs:=by exact trivial) (hd:DL C.P C.dels:=by exact trivial):Zre C.P f con :=
 fun _ _ _ x z hv ha hz=>⟨hen,Zlu (CfOK.of hc ho hi hm hq hb hd) (ZMb.of hn) hf hl (h x z hz) hv ha⟩
def endM (ty ty2:TypeId) (t:T) (c:V) (l:Lo):Option (List (List t.den)):=match c with
 | .cons (.own u) .nl=>match lkE l u with
  | some ⟨_,_,.mat ty' ty2' t' m _⟩=>match Nat.beq ty' ty,Nat.beq ty2' ty2 with
   | true,true=>Zjb t' t m
   | _,_=>none
  | _=>none
 | _=>none
def ZZj (C:Cf) (inl:Inl) (fn:Func) (ann:Ann) (ats:List T) (ty ty2:TypeId) (t:T) (x:Zy ats):Option (List (List t.den)):=match fn.body with
 | some c=>Zkb C (ZGe C inl 20) fn.results.toList 0 fn.ntmps c _ ann (Z9a 0 0 (ZRb ats x)) [] 1 ⟨fun _ _ _=>none,fun _ _ _ _=>none,fun c l _=>endM ty ty2 t c l⟩
 | none=>none
theorem Z8t {ℓ es:List Loc} {E:List Loc} (h:(ℓ.filterMap Loc.blk).Nodup) (hp:ℓ.Perm (es++E)):(es.filterMap Loc.blk).Nodup:=by
 have h1:=(hp.filterMap Loc.blk).nodup_iff.1 h;rw [List.filterMap_append] at h1;exact (List.nodup_append.1 h1).1
theorem ZJy {C:Cf} (hC:CfOK C) {inl:Inl} (hinl:ZMb C inl) {f:FuncId} {fn:Func} {ann:Ann} {ats:List T} {ty ty2:TypeId} {t:T} {x:Zy ats} {z:List (List t.den)} (hf:C.P.funcs[f]? = some fn) (hl:Nat.ble ats.length fn.ntmps=true) (h:ZZj C inl fn ann ats ty ty2 t x=some z)
  {w:World} {v:Zb} {vals:List Value} (hv:VIn v w) (ha:ZDa v ats vals x):RetO C.P f vals.toArray w v (OwnM ty ty2 t z w):=by
 unfold ZZj at h;split at h
 ·rename_i c hc;obtain ⟨h1,h2,h3⟩:=Zff (γ:=fun _=>.box 0) (l:=[]) (U:=(· < 0)) ha;have hK:vals.length≤fn.ntmps:=by rw [h3];exact Nat.le_of_ble_eq_true hl
  refine Zpk hv hf hc rfl hK fun a hS=>?_;have hr:RelX fn.ntmps (fun _ _=>False) w v (· < 1) (· < 1) (Z9a 0 0 (ZRb ats x)) [] a w (fun _=>.box 0) v []:=by
   refine ⟨⟨hS.size,hS.dfr,fun t x h=>(by cases h),hS.ext,hS.vst,hS.loc,hS.nd⟩,fun t e he=>?_,⟨[],trivial,List.Perm.refl _⟩,List.nodup_nil,fun t e he=>?_,fun e he=>(by cases he),fun x y h=>h.elim⟩
   ·obtain ⟨y,q1,q2,q3,q4,q5⟩:=Z7b h1 h2 he;have:=hS.fr t y ?_
    ·rw [this];exact q3
    ·have q2:vals[t-0]? = some y:=q2;have:=ZQh (k:=0) (t:=t) (y:=y) (by simpa using q2)
     rwa [Nat.zero_add] at this
   ·obtain ⟨y,q1,q2,q3,q4,q5⟩:=Z7b h1 h2 he;exact ⟨V.ok.mono (fun k h=>absurd h (Nat.not_lt_zero k)) q4,by show e.st<1;omega⟩
  refine ZAi hC (Z0i hC hinl 20) c h ⟨_,_,_,hr⟩ ⟨fun f' l' n' a' w' hp hn' ho' hr'=>(by cases hp),fun i f' l' n' a' w' hp hn' ho' hr'=>(by cases hp),fun c l' n' a' w' hp hn' ho' hr'=>?_⟩;obtain ⟨γ',v',ℓ',vals',hr',hc',hk',hres⟩:=hr';have hp:endM ty ty2 t c l'=some z:=hp;unfold endM at hp;split at hp
  ·rename_i u;split at hp
   ·rename_i kk st ty' ty2' t' m' hv' he;split at hp
    ·rename_i hty hty2;have hty:=Nat.eq_of_beq_eq_true hty;have hty2:=Nat.eq_of_beq_eq_true hty2;subst hty hty2;obtain ⟨e1,e2⟩:=ZX hp
     cases e1;cases e2
     obtain ⟨c1,xs1,rfl,⟨y,rfl,_,hy⟩,hx1⟩:=hc';have hx1:xs1=[]:=hx1;subst hx1;obtain ⟨ob,cap,rows0,g1,rfl⟩:=hy _ he;obtain ⟨E,hE,hpm⟩:=hr'.lr;obtain ⟨es,E',r1,r2,r3⟩:=Zjf hE he;obtain ⟨ob',cap',rows,es2,q1,q2,rfl⟩:=r1;have hkk:kk=_:=(Zq he).2;subst hkk;have q1:γ' kk = .mat ob' cap' rows:=q1;rw [g1] at q1;cases q1;refine ⟨hr'.st.dfr,_,ZIf hres,_,v',rfl,hr'.st.ext.ext,hr'.st.vst.ext,_,_,_,es2,rfl,q2,fun x hx=>?_,Z8t hr'.st.nd (hpm.trans r3)⟩;obtain ⟨hh,hb⟩:=hr'.st.loc x ((hpm.trans r3).mem_iff.2 (List.mem_append_left _ hx));refine ⟨hh,fun b e=>?_⟩;obtain ⟨h1,h2⟩:=hb b e;rcases h1 with h1 | h1
     ·exact ⟨h1,h2⟩
     ·cases h1
    ·cases hp
   ·cases hp
  ·cases hp
 ·cases h
theorem conm_k {C:Cf} (hc:CL C.P C.cons) (ho:OL C.P C.owns) (hi:IL C.P C.ins) (hm:ML C.P C.meths) {inl:Inl} (hn:NL C.P inl) {f:FuncId} {fn:Func} {ann:Ann} {con:ConM} (hf:C.P.funcs[f]? = some fn) (hen:ZG C.P f) (hl:Nat.ble con.args.length fn.ntmps=true)
  (h:∀ x z,con.F x=some z→ZZj C inl fn ann con.args con.ty con.ty2 con.t x=some z) (hq:QL C.P C.omats:=by exact trivial) (hb:BL C.P C.boxs:=by exact trivial) (hd:DL C.P C.dels:=by exact trivial):ZZf C.P f con :=
 fun _ _ _ x z hv ha hz=>⟨hen,ZJy (CfOK.of hc ho hi hm hq hb hd) (ZMb.of hn) hf hl (h x z hz) hv ha⟩
def endB (ty:TypeId) (c:CT) (rts:List T) (cv:V) (l:Lo) (n:Nat):Option (c.den×Zy rts):=ZAa n (ZMd rts cv fun y=>Zbc 0 (.box ty c) 0 fun z=>.done (z,y)) [] l fun r _ _=>some r
def ZZi (C:Cf) (inl:Inl) (fn:Func) (ann:Ann) (ty:TypeId) (c:CT) (ats rts:List T) (z:c.den) (x:Zy ats):Option (c.den×Zy rts):=match fn.body with
 | some cd=>match Z2 0 (.box ty c) z 0 1 with
  | (l,m)=>Zkb C (ZGe C inl 20) fn.results.toList m fn.ntmps cd _ ann (Z9a 0 0 (.cons (.ptr 0 0) (ZRb ats x))) l m ⟨endN fn (endB ty c rts),fun _ _ _ _=>none,endB ty c rts⟩
 | none=>none
theorem Zlx {C:Cf} (hC:CfOK C) {inl:Inl} (hinl:ZMb C inl) {f:FuncId} {fn:Func} {ann:Ann} {ty:TypeId} {c:CT} {ats rts:List T} {z:c.den} {x:Zy ats} {r:c.den×Zy rts} (hf:C.P.funcs[f]? = some fn) (hl:Nat.ble (ats.length+1) fn.ntmps=true) (h:ZZi C inl fn ann ty c ats rts z x=some r)
  {w:World} {v:Zb} {b:Nat} {es:List Loc} {vals:List Value} (hv:VIn v w) (hz:CRL v (.box ty c) z (.box b) es) (hes:∀ e ∈ es,e.holds w∧∀ k,e.blk=some k→v k=none) (hnd:(es.filterMap Loc.blk).Nodup) (ha:ZDa v ats vals x) :
  ZHc C.P f (Value.pointer (some ⟨b,0,none⟩) :: vals).toArray w v (es.filterMap Loc.blk) (OwnB ty c rts b r (es.filterMap Loc.blk) w):=by
 unfold ZZi at h;split at h
 ·rename_i cd hc;obtain ⟨k1,k2,k3,γ0,k4,k5⟩:=Zsn (hh:=0) (u:=0) (n:=1) hz (by omega) (by omega) (l2:=(Z2 0 (.box ty c) z 0 1).1) (n2:=(Z2 0 (.box ty c) z 0 1).2) rfl;have hkk:∀ e ∈ (Z2 0 (.box ty c) z 0 1).1,lkE (Z2 0 (.box ty c) z 0 1).1 e.k=some e:=fun e he=>Zbd k3 he;obtain ⟨E,hE,hpE⟩:=k5 γ0 _ fun e he=>⟨rfl,hkk e he⟩;have hhd:∀ e,lkE (Z2 0 (.box ty c) z 0 1).1 0=some e→∃ xh,e.x = .box ty xh:=fun e he=>by
   obtain ⟨hm,hk0⟩:=Zq he;rcases (k2 e hm).1 with ⟨_,q⟩ | q
   ·exact q
   ·omega
  have h:Zkb C (ZGe C inl 20) fn.results.toList (Z2 0 (.box ty c) z 0 1).2 fn.ntmps cd _ ann (Z9a 0 0 (.cons (.ptr 0 0) (ZRb ats x))) (Z2 0 (.box ty c) z 0 1).1 (Z2 0 (.box ty c) z 0 1).2 _=some r:=h;generalize (Z2 0 (.box ty c) z 0 1).1=lI at k2 k3 hE hkk hhd h;generalize (Z2 0 (.box ty c) z 0 1).2=m at k1 k2 h;have hargs:RR v γ0 lI true (.cons (.ptr 0 0) (ZRb ats x)) (Value.pointer (some ⟨b,0,none⟩) :: vals):=by
   obtain ⟨q1,q2,q3⟩:=Zff (γ:=γ0) (l:=lI) (U:=(· < 0)) ha;refine ⟨[.pointer (some ⟨b,0,none⟩)],vals,rfl,⟨_,rfl,rfl,fun e he=>?_⟩,q1⟩;obtain ⟨xh,hx⟩:=hhd e he;rw [hx];exact ⟨b,k4,rfl⟩
  have hok:(V.cons (.ptr 0 0) (ZRb ats x)).ok (· < m):=⟨(show 0<m by omega),V.ok.mono (fun k h=>absurd h (Nat.not_lt_zero k)) (Zff (γ:=γ0) (l:=lI) (U:=(· < 0)) ha).2.1⟩;have hlen:=(Zff (γ:=γ0) (l:=lI) (U:=(· < 0)) ha).2.2;have hK:vals.length+1≤fn.ntmps:=by rw [hlen];exact Nat.le_of_ble_eq_true hl
  refine calls_of_wp hf hc ?_;have hS:=St.enter (K:=fn.ntmps) hv (Value.pointer (some ⟨b,0,none⟩) :: vals) (by simpa using hK);have hlent:∀ e ∈ es,∀ k,e.blk=some k→k ∈ es.filterMap Loc.blk:=fun e he k hk=>List.mem_filterMap.2 ⟨e,he,hk⟩;have hr:RelX fn.ntmps (fun x y=>x = .ptr 0 0∧y = .pointer (some ⟨b,0,none⟩)) ⟨w,es.filterMap Loc.blk⟩ v (· < m) (· < m) (Z9a 0 0 (.cons (.ptr 0 0) (ZRb ats x))) lI { tmps:=(Value.pointer (some ⟨b,0,none⟩) :: vals).toArray++Array.replicate (fn.ntmps-(Value.pointer (some ⟨b,0,none⟩) :: vals).toArray.size) undef,defers:=[] } w γ0 v es:=by
   refine ⟨⟨hS.size,hS.dfr,fun t x h=>(by cases h),ExtB.refl ⟨w,es.filterMap Loc.blk⟩,⟨Zb.le_refl _,hv,fun _ _ _=>rfl⟩,fun e he=>⟨(hes e he).1,fun k hk=>⟨.inr (hlent e he k hk),(hes e he).2 k hk⟩⟩,hnd⟩,fun t e he=>?_,⟨E,hE,hpE⟩,k3,fun t e he=>?_,fun e he=>?_,fun x y hg=>?_⟩
   ·obtain ⟨y,q1,q2,q3,q4,q5⟩:=Z7b hargs hok he;have:=hS.fr t y ?_
    ·rw [this];exact q3
    ·have:=ZQh (k:=0) (t:=t) (y:=y) (by simpa using q2)
     rwa [Nat.zero_add] at this
   ·obtain ⟨y,q1,q2,q3,q4,q5⟩:=Z7b hargs hok he;exact ⟨q4,by show e.st<m;omega⟩
   ·obtain ⟨q1,q2,q3,q4⟩:=k2 e he;refine ⟨?_,q3,q4⟩;rcases q1 with ⟨q1,_⟩ | q1
    ·show e.k<m;omega
    ·exact q1.2
   ·obtain ⟨rfl,rfl⟩:=hg;obtain ⟨c1,xs1,q1,q2,q3⟩:=hargs;obtain ⟨yy,rfl,q4⟩:=q2;have q1:Value.pointer (some ⟨b,0,none⟩)=yy:=(List.cons.inj q1).1;subst q1;exact ⟨⟨_,⟨_,rfl,q4⟩,rfl⟩,(show 0<m by omega)⟩
  have fin:∀ {cv:V} {l':Lo} {n':Nat} {a':Act} {w':World} {γ':Nat→Gh} {v':Zb} {ℓ':List Loc} {vals':List Value},endB ty c rts cv l' n'=some r→m≤n'→RelX fn.ntmps (fun x y=>x = .ptr 0 0∧y = .pointer (some ⟨b,0,none⟩)) ⟨w,es.filterMap Loc.blk⟩ v (· < n') (· < n') [] l' a' w' γ' v' ℓ'→RR v' γ' l' true cv vals'→cv.ok (· < n') →
    ∃ v2,ExtB ⟨w,es.filterMap Loc.blk⟩ w'∧VStepB ⟨w,es.filterMap Loc.blk⟩ v w' v2∧OwnB ty c rts b r (es.filterMap Loc.blk) w (Zve vals') v2 w':=by
   intro cv l' n' a' w' γ' v' ℓ' vals' hx hmn hr' hcv hck;have h1:=ZEg hx;have hr1:RelX fn.ntmps (fun x y=>x = .ptr 0 0∧y = .pointer (some ⟨b,0,none⟩)) ⟨w,es.filterMap Loc.blk⟩ v (· < n') (· < n'+1) [] l' a' w' γ' v' ℓ':=hr'.mono (fun _ h=>h) fun k h=>(show k<n'+1 by have:k<n':=h;omega);obtain ⟨y,l1,γ1,v1,ℓ1,h2,r1,le1,q1⟩:=Zpf (U:=(· < n')) (X:=(· < n'+1)) (Nat.lt_irrefl n') (Nat.lt_succ_self n') h1 hr1 hck;obtain ⟨z2,l2,γ2,v2,ℓ2,es2,e0,h3,r2,hst,le2,hcrl,he0,hnone,hhead⟩:=ZYn (U:=(· < n')) (X:=(· < n'+1)) (Nat.lt_irrefl n') (Nat.lt_succ_self n') (ex:=[]) (show 0<n' by omega) h2 r1 r1.st;have h3:some (z2,y)=some r:=h3
   cases h3
   have hst:St fn.ntmps ⟨w,es.filterMap Loc.blk⟩ v [] (es2++ℓ2) v2 a' w':=hst;obtain ⟨b2,c1,e1,hg,hcr,hpl,hes2⟩:=hcrl;have hbb:b2=b:=by
    obtain ⟨⟨cs,⟨yy,rfl,_,hy⟩,hyy⟩,_⟩:=r1.gh _ _ ⟨rfl,rfl⟩;have hyy:Value.pointer (some ⟨b,0,none⟩)=yy:=hyy;subst hyy;obtain ⟨xh,hxh⟩:=hhead;have hy:=hy _ he0;rw [hxh] at hy;obtain ⟨b3,t1,t2⟩:=hy;rw [hg] at t1;cases t1;cases t2;rfl
   subst hbb;refine ⟨v2,hst.ext,hst.vst,Zwq (Z1m le2.v (q1 _ hcv)),es2,⟨b2,c1,e1,rfl,hcr,hpl,hes2⟩,fun e he=>?_,?_⟩
   ·exact hst.loc e (List.mem_append_left _ he)
   ·have:=hst.nd;rw [List.filterMap_append] at this;exact (List.nodup_append.1 this).1
  refine ZAi hC (Z0i hC hinl 20) cd h ⟨_,_,_,hr⟩ ⟨fun f' l' n' a' w' hp hn' ho' hr'=>?_,fun i f' l' n' a' w' hp hn' ho' hr'=>(by cases hp),fun cv l' n' a' w' hp hn' ho' hr'=>?_⟩
  ·unfold endN at hp;split at hp
   ·rename_i hres;obtain ⟨γ',v',ℓ',hr'⟩:=hr';have hr2:RelX fn.ntmps (fun x y=>x = .ptr 0 0∧y = .pointer (some ⟨b,0,none⟩)) ⟨w,es.filterMap Loc.blk⟩ v (· < n') (· < n') [] l' a' w' γ' v' ℓ':=⟨⟨hr'.st.size,hr'.st.dfr,fun t x h=>(by cases h),hr'.st.ext,hr'.st.vst,hr'.st.loc,hr'.st.nd⟩,fun t e he=>(by cases he),hr'.lr,hr'.nd,fun t e he=>(by cases he),hr'.ul,hr'.gh⟩;obtain ⟨v2,t1,t2,t3⟩:=fin hp hn' hr2 (vals':=[]) rfl trivial;exact ⟨hr'.st.dfr,_,ZIf (vals:=[]) (by rw [hres];exact trivial),_,v2,rfl,t1,t2,t3⟩
   ·cases hp
  ·obtain ⟨γ',v',ℓ',vals',hr',hc',hk',hres⟩:=hr';obtain ⟨v2,t1,t2,t3⟩:=fin hp hn' hr' hc' hk';exact ⟨hr'.st.dfr,_,ZIf hres,_,v2,rfl,t1,t2,t3⟩
 ·cases h
theorem conb_k {C:Cf} (hc:CL C.P C.cons) (ho:OL C.P C.owns) (hi:IL C.P C.ins) (hm:ML C.P C.meths) {inl:Inl} (hn:NL C.P inl) {f:FuncId} {fn:Func} {ann:Ann} {con:ConB} (hf:C.P.funcs[f]? = some fn) (hen:ZG C.P f) (hl:Nat.ble (con.args.length+1) fn.ntmps=true)
  (h:∀ z x r,con.F z x=some r→ZZi C inl fn ann con.ty con.c con.args con.res z x=some r) (hq:QL C.P C.omats:=by exact trivial) (hb:BL C.P C.boxs:=by exact trivial) (hd:DL C.P C.dels:=by exact trivial):Z2e C.P f con :=
 fun _ _ _ _ _ z x r hv hz hes hnd ha hF=>⟨hen,Zlx (CfOK.of hc ho hi hm hq hb hd) (ZMb.of hn) hf hl (h z x r hF) hv hz hes hnd ha⟩
theorem tr:True:=trivial
abbrev Ann.n (a:Ann):Ann:=.two .no a
abbrev Ann.f (a:Ann):Ann:=.two a .no
abbrev Ann.j (s:List Nat) (p:List Pl) (v:List Vr) (a:Ann):Ann:=.cut ⟨⟨[],[],[]⟩,[(.norm,⟨s,p,v⟩)]⟩ a
abbrev Ann.r (s:List Nat) (p:List Pl) (v:List Vr) (a:Ann):Ann:=.cut ⟨⟨[],[],[]⟩,[(.ret,⟨s,p,v⟩)]⟩ a
abbrev Ann.l (s:List Nat) (p:List Pl) (v:List Vr) (k:Nat) (s':List Nat) (p':List Pl) (v':List Vr) (a:Ann):Ann:=.cut ⟨⟨s,p,v⟩,[(.exit k,⟨s',p',v'⟩)]⟩ a
def ConR (P:Program) (f:FuncId) (c:Con):Prop:=∀ (w:World) (v:Zb) (vals:List Value) (x:Zy c.args) (z:Zy c.res),VIn v w→ZDa v c.args vals x→c.F x=some z→ZG P f∧Ret P f vals.toArray w v fun y v'=>Zae v' c.res y z
theorem Zh {P:Program} {f:FuncId} {c:Con} (h:ConR P f c):Z1d P f c:=fun w v vals x z hv ha hz=>.inl (h w v vals x z hv ha hz)
theorem Zv {f:FuncId} {ats rts:List T} {F:Zy ats→Option (Zy rts)} {C:Cf} (ann:Ann) {fn:Func} (hf:C.P.funcs[f]? = some fn) (inl:Inl) (h:∀ x,Zxh C inl fn ann ats rts x=F x) (hc:CL C.P C.cons:=by exact tr) (ho:OL C.P C.owns:=by exact tr) (hm:ML C.P C.meths:=by exact tr) (hn:NL C.P inl:=by exact tr)
  (hq:QL C.P C.omats:=by exact tr) (hb:BL C.P C.boxs:=by exact tr) (hd:DL C.P C.dels:=by exact tr) (hi:IL C.P C.ins:=by exact tr) (hen:ZG C.P f:=by exact fun _ _=>by kernel_rfl) (hl:Nat.ble ats.length fn.ntmps=true:=by exact rfl):ConR C.P f ⟨ats,rts,F⟩ :=
 fun _ _ _ x _ hv ha hz=>⟨hen,ZAl (CfOK.of hc ho hi hm hq hb hd) (ZMb.of hn) hf hl ((h x).trans hz) hv ha⟩
theorem Zx {f:FuncId} {ats rts:List T} {F:Zy ats→Option (Zy rts)} {C:Cf} (ann:Ann) {fn:Func} (hf:C.P.funcs[f]? = some fn) (inl:Inl) (h:∀ v vals x z,ZDa v ats vals x→F x=some z→Zxh C inl fn ann ats rts x=some z) (hc:CL C.P C.cons:=by exact tr) (ho:OL C.P C.owns:=by exact tr) (hm:ML C.P C.meths:=by exact tr) (hn:NL C.P inl:=by exact tr)
  (hq:QL C.P C.omats:=by exact tr) (hb:BL C.P C.boxs:=by exact tr) (hd:DL C.P C.dels:=by exact tr) (hi:IL C.P C.ins:=by exact tr) (hen:ZG C.P f:=by exact fun _ _=>by kernel_rfl) (hl:Nat.ble ats.length fn.ntmps=true:=by exact rfl):ConR C.P f ⟨ats,rts,F⟩ :=
 fun _ v vals x z hv ha hz=>⟨hen,ZAl (CfOK.of hc ho hi hm hq hb hd) (ZMb.of hn) hf hl (h v vals x z ha hz) hv ha⟩
theorem Zwj {f:FuncId} {ax rs:List T} {F:Zy ax→Option (Zy rs)} {C:Cf} (ann:Ann) {fn:Func} (hf:C.P.funcs[f]? = some fn) (inl:Inl) (ats rts:List T) (gA:Zy ax→Zy ats) (gR:Zy rs→Zy rts) (h:∀ v vals x z,ZDa v ax vals x→F x=some z→Zxh C inl fn ann ats rts (gA x)=some (gR z))
  (hc:CL C.P C.cons:=by exact tr) (ho:OL C.P C.owns:=by exact tr) (hm:ML C.P C.meths:=by exact tr) (hn:NL C.P inl:=by exact tr)
  (hA:∀ v vals x,ZDa v ax vals x→ZDa v ats vals (gA x):=by exact fun _ _ _ h=>h) (hR:∀ v y z,Zae v rts y (gR z)→Zae v rs y z:=by exact fun _ _ _ h=>h)
  (hq:QL C.P C.omats:=by exact tr) (hb:BL C.P C.boxs:=by exact tr) (hd:DL C.P C.dels:=by exact tr) (hi:IL C.P C.ins:=by exact tr) (hen:ZG C.P f:=by exact fun _ _=>by kernel_rfl) (hl:Nat.ble ats.length fn.ntmps=true:=by exact rfl):ConR C.P f ⟨ax,rs,F⟩ :=
 fun _ v vals x z hv ha hz=>⟨hen,(ZAl (CfOK.of hc ho hi hm hq hb hd) (ZMb.of hn) hf hl (h v vals x z ha hz) hv (hA v vals x ha)).mono fun y v' _ hy=>hR v' y z hy⟩
theorem cono_z {f:FuncId} {ats:List T} {ty:TypeId} {t:T} {F:Zy ats→Option (List t.den)} {C:Cf} (ann:Ann) {fn:Func} (hf:C.P.funcs[f]? = some fn) (inl:Inl) (h:∀ x,ZKk C inl fn ann ats ty t x=F x) (hc:CL C.P C.cons:=by exact tr) (ho:OL C.P C.owns:=by exact tr) (hm:ML C.P C.meths:=by exact tr) (hn:NL C.P inl:=by exact tr)
  (hq:QL C.P C.omats:=by exact tr) (hb:BL C.P C.boxs:=by exact tr) (hd:DL C.P C.dels:=by exact tr) (hi:IL C.P C.ins:=by exact tr) (hen:ZG C.P f:=by exact fun _ _=>by kernel_rfl) (hl:Nat.ble ats.length fn.ntmps=true:=by exact rfl):Zre C.P f ⟨ats,ty,t,F⟩ :=
 cono_k hc ho hi hm hn hf hen hl (fun x _ hz=>(h x).trans hz) hq hb hd
theorem conm_z {f:FuncId} {ats:List T} {ty ty2:TypeId} {t:T} {F:Zy ats→Option (List (List t.den))} {C:Cf} (ann:Ann) {fn:Func} (hf:C.P.funcs[f]? = some fn) (inl:Inl) (h:∀ x,ZZj C inl fn ann ats ty ty2 t x=F x) (hc:CL C.P C.cons:=by exact tr) (ho:OL C.P C.owns:=by exact tr) (hm:ML C.P C.meths:=by exact tr) (hn:NL C.P inl:=by exact tr)
  (hq:QL C.P C.omats:=by exact tr) (hb:BL C.P C.boxs:=by exact tr) (hd:DL C.P C.dels:=by exact tr) (hi:IL C.P C.ins:=by exact tr) (hen:ZG C.P f:=by exact fun _ _=>by kernel_rfl) (hl:Nat.ble ats.length fn.ntmps=true:=by exact rfl):ZZf C.P f ⟨ats,ty,ty2,t,F⟩ :=
 conm_k hc ho hi hm hn hf hen hl (fun x _ hz=>(h x).trans hz) hq hb hd
theorem Zpg {f:FuncId} {ty:TypeId} {c:CT} {ats rts:List T} {F:c.den→Zy ats→Option (c.den×Zy rts)} {C:Cf} (ann:Ann) {fn:Func} (hf:C.P.funcs[f]? = some fn) (inl:Inl) (h:∀ z x,ZZi C inl fn ann ty c ats rts z x=F z x) (hc:CL C.P C.cons:=by exact tr) (ho:OL C.P C.owns:=by exact tr) (hm:ML C.P C.meths:=by exact tr) (hn:NL C.P inl:=by exact tr)
  (hq:QL C.P C.omats:=by exact tr) (hb:BL C.P C.boxs:=by exact tr) (hd:DL C.P C.dels:=by exact tr) (hi:IL C.P C.ins:=by exact tr) (hen:ZG C.P f:=by exact fun _ _=>by kernel_rfl) (hl:Nat.ble (ats.length+1) fn.ntmps=true:=by exact rfl):Z2e C.P f ⟨ty,c,ats,rts,F⟩ :=
 conb_k hc ho hi hm hn hf hen hl (fun z x _ hz=>(h z x).trans hz) hq hb hd
end Go.Eng
namespace Go.Eng
open Go.Proofs Go.RowKit
abbrev lf:List (TypeId×Nat):=[(43,1),(45,4),(55,0),(57,2),(59,3)]
noncomputable abbrev cf0 (c:List (FuncId×Con)) (m:List Nat) (o:List (FuncId×ConO)) (s:List ((TypeId×String)×FuncId)):Cf:=⟨Tryz.prog,lf,c,m,o,[],s,{}⟩
noncomputable abbrev cf2 (l:List (TypeId×Nat)) (c:List (FuncId×Con)):Cf:=⟨Tryz.prog,l,c,[],[],[],[],{}⟩
noncomputable abbrev cf1 (c:List (FuncId×Con)) (m:List Nat) (o:List (FuncId×ConO)) (s:List ((TypeId×String)×FuncId)) (q:List (FuncId×ConM)) (b:List (FuncId×ConB)) (d:List (FuncId×ConD)):Cf:=⟨Tryz.prog,lf,c,m,o,[],s,⟨q,b,d⟩⟩
abbrev KQ (q:FuncId×Con):=Z1d Tryz.prog q.1 q.2
abbrev KR (q:FuncId×Con):=ConR Tryz.prog q.1 q.2
abbrev KO (q:FuncId×ConO):=Zre Tryz.prog q.1 q.2
abbrev KW (q:FuncId×ConM):=ZZf Tryz.prog q.1 q.2
abbrev KB (q:FuncId×ConB):=Z2e Tryz.prog q.1 q.2
end Go.Eng
set_option maxRecDepth 100000
set_option maxHeartbeats 4000000
namespace Go.Eng
open Go.Proofs Go.RowKit
noncomputable def Z2q:FuncId×Con:=(83,⟨[.slice (.pair (.int .i64) (.int .i64))],[.bool],fun p=>ZNf p⟩)
theorem Zgy:KQ Z2q:=Zh (Zv (C:=cf0 [] [] [] []) (.n (.f (.n (.f (.cut ⟨⟨[5,6],[],[.s 7 (.dat (.int .i64))]⟩,[(.exit 0,⟨[],[],[]⟩),(.ret,⟨[],[],[.s 1000 (.dat .bool)]⟩)]⟩ (.f (.n (.n (.f (.f (.n (.f (.j [5,6,7] [] [.s 24 (.dat .bool)] .no))))))))))))) Tryz.func83 [] (fun _=>by kernel_rfl))
end Go.Eng
set_option maxRecDepth 100000
set_option maxHeartbeats 4000000
namespace Go.Eng
open Go.Proofs Go.RowKit
noncomputable def Zbp:FuncId×Con:=(38,⟨[.slice (.slice (.pair (.int .i64) (.int .i64)))],[.bool],fun p=>Zuj p⟩)
theorem few2_k:KQ Zbp:=Zh (Zv (C:=cf0 [Z2q] [] [] []) (.n (.two (.n (.f (.f (.j [] [] [.s 2 (.dat .bool)] .no)))) (.f (.n (.f (.cut ⟨⟨[0,16,17],[],[.s 18 (.dat (.int .i64))]⟩,[(.exit 0,⟨[],[],[]⟩),(.ret,⟨[],[],[.s 1000 (.dat .bool)]⟩)]⟩ (.f (.n (.n (.f (.f (.n (.f (.j [0,16,17,18] [] [.s 44 (.dat .bool)] .no)))))))))))))) Tryz.func38 [] (fun _=>by kernel_rfl) ⟨Zgy,tr⟩)
end Go.Eng
set_option maxRecDepth 100000
set_option maxHeartbeats 4000000
namespace Go.Eng
open Go.Proofs Go.RowKit
noncomputable def Z0o:FuncId×Con:=(7,⟨[.slice (.slice (.pair (.int .i64) (.int .i64))),.slice (.pair (.int .i64) (.int .i64)),.slice (.pair (.int .i64) (.int .i64))],[.bool],fun p=>Z8j p.1 p.2.1 p.2.2⟩)
theorem ZBv:KQ Z0o:=Zh (Zv (C:=cf0 [Zbp] [] [] []) (.n (.f (.j [] [] [.s 6 (.dat .bool)] .no))) Tryz.func7 [] (fun _=>by kernel_rfl) ⟨few2_k,tr⟩)
end Go.Eng
set_option maxRecDepth 100000
set_option maxHeartbeats 4000000
namespace Go.Eng
open Go.Proofs Go.RowKit
noncomputable def ZAd:FuncId×Con:=(125,⟨[.slice (.int .u32)],[.leaf 1],fun p=>ZUa p⟩)
theorem ZOe:KQ ZAd:=Zh (Zwj (C:=cf2 [] []) (.n (.n (.f (.j [0] [] [.s 3 (.dat (.int .i64))] (.f (.l [0] [] [.s 3 (.dat (.int .i64))] 0 [0] [] [.s 3 (.dat (.int .i64))] (.f (.f (.f (.j [0,3] [] [.s 15 (.dat .bool)] .no)))))))))) Tryz.func125 [] [.slice (.int .u32)] [.slice (.int .u32)] (fun x=>(x)) (fun z=>(Zc 4294967296 z)) (fun v vals x z ha hz=>by obtain ⟨c0,e0,p0⟩:=ha;exact .trans (by kernel_rfl) (by cases hz;exact (rcut_eq (Zon p0).1 (Zon p0).2))))
end Go.Eng
set_option maxRecDepth 100000
set_option maxHeartbeats 4000000
namespace Go.Eng
open Go.Proofs Go.RowKit
noncomputable def ZXj:FuncId×Con:=(90,⟨[.int .u64],[.leaf 1],fun p=>Zcc p⟩)
theorem Zyl:KQ ZXj:=Zh (Zx (C:=cf2 [(43,1),(45,4)] [ZAd]) .no Tryz.func90 [] (fun v vals x z ha hz=>by obtain ⟨c0,e0,p0⟩:=ha;exact .trans (by kernel_rfl) (Zvu p0.2 hz)) ⟨ZOe,tr⟩)
end Go.Eng
set_option maxRecDepth 100000
set_option maxHeartbeats 4000000
namespace Go.Eng
open Go.Proofs Go.RowKit
noncomputable def Zwi:FuncId×Con:=(101,⟨[.leaf 1,.leaf 1],[.int .i64],fun p=>Zrc p.1 p.2⟩)
theorem Z0j:KQ Zwi:=Zh (Zx (C:=cf2 [(43,1),(45,4)] []) (.n (.n (.n (.f (.n (.cut ⟨⟨[],[],[]⟩,[(.norm,⟨[],[],[]⟩),(.ret,⟨[],[],[.s 1000 (.dat (.int .i64))]⟩)]⟩ (.f (.cut ⟨⟨[0,1],[],[.s 5 (.dat (.int .i64))]⟩,[(.ret,⟨[],[],[.s 1000 (.dat (.int .i64))]⟩),(.exit 0,⟨[],[],[]⟩)]⟩ .no)))))))) Tryz.func101 [] (fun v vals x z ha hz=>by obtain ⟨c0,w0,e0,p0,c1,e1,p1⟩:=ha;exact .trans (by kernel_rfl) ((ZGw (Zho p0) (Zho p1)).trans hz)))
end Go.Eng
set_option maxRecDepth 100000
set_option maxHeartbeats 4000000
namespace Go.Eng
open Go.Proofs Go.RowKit
noncomputable def ZEl:FuncId×Con:=(134,⟨[.leaf 1,.int .u32],[.leaf 1,.int .u32],fun p=>Zxe p.1 p.2⟩)
theorem ZDo:KQ ZEl:=Zh (Zx (C:=cf2 [(43,1),(45,4)] [ZAd]) (.n (.n (.n (.f (.n (.j [] [] [.s 6 (.own 154 (.int .u32)),.s 7 (.dat (.int .u64))] (.f (.l [0,1] [] [.s 6 (.own 154 (.int .u32)),.s 7 (.dat (.int .u64)),.s 8 (.dat (.int .i64))] 0 [] [] [.s 6 (.own 154 (.int .u32)),.s 7 (.dat (.int .u64))] .no)))))))) Tryz.func134 [] (fun v vals x z ha hz=>by obtain ⟨c0,w0,e0,p0,c1,e1,p1⟩:=ha;exact .trans (by kernel_rfl) (Zpv p1.2 hz)) ⟨ZOe,tr⟩)
end Go.Eng
set_option maxRecDepth 100000
set_option maxHeartbeats 4000000
namespace Go.Eng
open Go.Proofs Go.RowKit
noncomputable def ZKj:FuncId×Con:=(135,⟨[.leaf 1,.leaf 1],[.leaf 1],fun p=>Zpa p.1 p.2⟩)
theorem Zil:KQ ZKj:=Zh (Zx (C:=cf2 [(43,1),(45,4)] [ZAd]) (.n (.n (.f (.n (.j [] [] [.s 5 (.own 154 (.int .u32))] (.f (.l [0,1] [] [.s 5 (.own 154 (.int .u32)),.s 6 (.dat (.int .i64))] 0 [] [] [.s 5 (.own 154 (.int .u32))] (.f (.n (.f (.f (.n (.f (.n (.j [0,1,6] [] [.s 5 (.own 154 (.int .u32)),.s 7 (.dat (.int .u64))] (.f (.l [0,1,6] [] [.s 5 (.own 154 (.int .u32)),.s 7 (.dat (.int .u64)),.s 8 (.dat (.int .i64))] 2 [0,1,6] [] [.s 5 (.own 154 (.int .u32)),.s 7 (.dat (.int .u64))] .no))))))))))))))))) Tryz.func135 [] (fun v vals x z ha hz=>.trans (by kernel_rfl) (ZPy hz)) ⟨ZOe,tr⟩)
end Go.Eng
set_option maxRecDepth 100000
set_option maxHeartbeats 4000000
namespace Go.Eng
open Go.Proofs Go.RowKit
noncomputable def Zmn:FuncId×Con:=(137,⟨[.leaf 1,.leaf 1],[.leaf 1],fun p=>Zyb p.1 p.2⟩)
theorem ZEs:KQ Zmn:=Zh (Zx (C:=cf2 [(43,1),(45,4)] [ZAd]) (.n (.n (.n (.f (.n (.j [] [] [.s 5 (.own 154 (.int .u32))] (.f (.l [0,1] [] [.s 5 (.own 154 (.int .u32)),.s 6 (.dat (.int .i64)),.s 7 (.dat (.int .i64))] 0 [] [] [.s 5 (.own 154 (.int .u32))] (.f (.n (.f (.f (.n (.two (.n (.j [0,1,5,7] [] [.s 8 (.dat (.int .i64))] .no)) (.n (.f (.n (.j [0,1,5,7] [] [.s 6 (.dat (.int .i64)),.s 8 (.dat (.int .i64))] .no)))))))))))))))))) Tryz.func137 [] (fun v vals x z ha hz=>.trans (by kernel_rfl) (Z1t hz)) ⟨ZOe,tr⟩)
end Go.Eng
set_option maxRecDepth 100000
set_option maxHeartbeats 4000000
namespace Go.Eng
open Go.Proofs Go.RowKit
noncomputable def ZDm:FuncId×Con:=(156,⟨[.leaf 1],[.int .i64],fun p=>Zdf p⟩)
theorem ZUs:KQ ZDm:=Zh (Zx (C:=cf2 [(43,1),(45,4)] []) (.n (.n (.n (.f (.n (.j [] [] [.s 3 (.dat (.int .i64))] (.f (.l [] [] [.s 3 (.dat (.int .i64)),.s 4 (.dat (.int .u32))] 0 [] [] [.s 3 (.dat (.int .i64))] .no)))))))) Tryz.func156 [] (fun v vals x z ha hz=>.trans (by kernel_rfl) (Zzu hz)))
end Go.Eng
set_option maxRecDepth 100000
set_option maxHeartbeats 4000000
namespace Go.Eng
open Go.Proofs Go.RowKit
noncomputable def Z5g:FuncId×Con:=(157,⟨[.leaf 1,.int .i64],[.leaf 1],fun p=>ZDb p.1 p.2⟩)
theorem ZDi:KQ Z5g:=Zh (Zx (C:=cf2 [(43,1),(45,4)] [ZAd]) (.n (.n (.n (.n (.f (.n (.j [] [] [.s 5 (.own 154 (.int .u32)),.s 6 (.dat (.int .u64))] (.f (.l [0,1] [] [.s 5 (.own 154 (.int .u32)),.s 6 (.dat (.int .u64)),.s 7 (.dat (.int .i64))] 0 [] [] [.s 5 (.own 154 (.int .u32)),.s 6 (.dat (.int .u64))] .no))))))))) Tryz.func157 [] (fun v vals x z ha hz=>.trans (by kernel_rfl) (ZWw hz)) ⟨ZOe,tr⟩)
end Go.Eng
set_option maxRecDepth 100000
set_option maxHeartbeats 4000000
namespace Go.Eng
open Go.Proofs Go.RowKit
noncomputable def Zim:FuncId×Con:=(158,⟨[.leaf 1,.int .i64],[.leaf 1],fun p=>ZSf p.1 p.2⟩)
theorem Z6r:KQ Zim:=Zh (Zx (C:=cf2 [(43,1),(45,4)] [ZAd]) (.n (.n (.f (.n (.j [] [] [.s 5 (.own 154 (.int .u32))] (.f (.l [0,1] [] [.s 5 (.own 154 (.int .u32)),.s 6 (.dat (.int .i64))] 0 [] [] [.s 5 (.own 154 (.int .u32))] (.f (.n (.f (.f (.n (.f (.n (.j [0,1,5,6] [] [.s 7 (.dat (.int .u64))] .no))))))))))))))) Tryz.func158 [] (fun v vals x z ha hz=>by obtain ⟨c0,w0,e0,p0,c1,e1,p1⟩:=ha;exact .trans (by kernel_rfl) (Zaw p1.2 hz)) ⟨ZOe,tr⟩)
end Go.Eng
set_option maxRecDepth 100000
set_option maxHeartbeats 4000000
namespace Go.Eng
open Go.Proofs Go.RowKit
noncomputable def ZVj:FuncId×Con:=(124,⟨[.leaf 1,.leaf 1],[.leaf 1,.leaf 1],fun p=>Z4b p.1 p.2⟩)
theorem Z5l:KQ ZVj:=Zh (Zx (C:=cf2 [(43,1),(45,4)] [ZXj,Zwi,ZAd,ZEl,ZKj,Zmn,ZDm,Z5g,Zim]) (.n (.n (.n (.n (.n (.n (.n (.f (.n (.j [8] [] [.s 10 (.dat (.leaf 1)),.s 12 (.own 154 (.int .u32))] (.f (.l [8,9,11] [] [.s 10 (.dat (.leaf 1)),.s 12 (.own 154 (.int .u32)),.s 13 (.dat (.int .i64))] 0 [8] [] [.s 10 (.dat (.leaf 1)),.s 12 (.own 154 (.int .u32))] (.f (.n (.f (.j [8,9,11,13] [] [.s 10 (.dat (.leaf 1)),.s 12 (.own 154 (.int .u32))] (.f (.n (.two (.n (.j [8,9,10,11,12,13] [] [.s 14 (.dat (.slice (.int .u32)))] .no)) (.n (.n (.two (.n (.j [8,9,10,11,12,13,14] [] [.s 15 (.dat (.int .u64))] .no)) (.n (.two (.n (.j [8,9,10,11,12,13,14] [] [.s 16 (.dat (.int .u64))] .no)) (.n (.f (.j [8,9,10,11,12,13,14] [] [.s 16 (.dat (.int .u64)),.s 17 (.dat (.leaf 1))] (.f (.l [8,9,10,11,12,13,14] [] [.s 16 (.dat (.int .u64)),.s 17 (.dat (.leaf 1))] 2 [8,9,10,11,12,13,14] [] [.s 16 (.dat (.int .u64)),.s 17 (.dat (.leaf 1))] .no))))))))))))))))))))))))))))) Tryz.func124 [] (fun v vals x z ha hz=>.trans (by kernel_rfl) (Zty hz)) ⟨Zyl,Z0j,ZOe,ZDo,Zil,ZEs,ZUs,ZDi,Z6r,tr⟩)
end Go.Eng
set_option maxRecDepth 100000
set_option maxHeartbeats 4000000
namespace Go.Eng
open Go.Proofs Go.RowKit
noncomputable def Zno:FuncId×Con:=(123,⟨[.leaf 1,.leaf 1],[.leaf 1],fun p=>rgcF p.1 p.2⟩)
theorem rgcd_k:KQ Zno:=Zh (Zx (C:=cf2 [(43,1),(45,4)] [ZVj]) (.n (.f (.j [] [] [.s 0 (.dat (.leaf 1))] (.f (.l [] [] [.s 0 (.dat (.leaf 1)),.s 1 (.dat (.leaf 1))] 0 [] [] [.s 0 (.dat (.leaf 1))] .no))))) Tryz.func123 [] (fun v vals x z ha hz=>.trans (by kernel_rfl) (rgcF_eq hz)) ⟨Z5l,tr⟩)
end Go.Eng
set_option maxRecDepth 100000
set_option maxHeartbeats 4000000
namespace Go.Eng
open Go.Proofs Go.RowKit
noncomputable def Z8d:FuncId×Con:=(89,⟨[.bool,.leaf 1,.leaf 1],[.leaf 4],fun p=>ZLa p.1 p.2.1 p.2.2⟩)
theorem ZCe:KQ Z8d:=Zh (Zx (C:=cf2 [(43,1),(45,4)] [Zno,ZVj]) .no Tryz.func89 [] (fun v vals x z ha hz=>.trans (by kernel_rfl) (Z2v hz)) ⟨rgcd_k,Z5l,tr⟩)
end Go.Eng
set_option maxRecDepth 100000
set_option maxHeartbeats 4000000
namespace Go.Eng
open Go.Proofs Go.RowKit
noncomputable def ZMf:FuncId×Con:=(44,⟨[.int .i64],[.leaf 4],fun p=>Zda p⟩)
theorem ZKg:KQ ZMf:=Zh (Zx (C:=cf2 [(43,1),(45,4)] [Z8d,ZXj]) .no Tryz.func44 [] (fun v vals x z ha hz=>by obtain ⟨c0,e0,p0⟩:=ha;exact .trans (by kernel_rfl) (ZKv p0.2 hz)) ⟨ZCe,Zyl,tr⟩)
end Go.Eng
set_option maxRecDepth 100000
set_option maxHeartbeats 4000000
namespace Go.Eng
open Go.Proofs Go.RowKit
noncomputable def Zkq:FuncId×Con:=(45,⟨[.int .i64,.int .i64],[.leaf 4,.int .i64],fun p=>ZXh p.1 p.2⟩)
theorem rnew_k:KQ Zkq:=Zh (Zx (C:=cf2 [(43,1),(45,4)] [ZMf,Z8d]) .no Tryz.func45 [] (fun v vals x z ha hz=>by obtain ⟨c0,w0,e0,p0,c1,e1,p1⟩:=ha;exact .trans (by kernel_rfl) (Z1v p0.2 p1.2 hz)) ⟨ZKg,ZCe,tr⟩)
end Go.Eng
set_option maxRecDepth 100000
set_option maxHeartbeats 4000000
namespace Go.Eng
open Go.Proofs Go.RowKit
noncomputable def Zuk:FuncId×Con:=(12,⟨[.pair (.int .i64) (.int .i64)],[.leaf 4],fun p=>ZHd p⟩)
theorem rof_k:KQ Zuk:=Zh (Zx (C:=cf2 [(43,1),(45,4)] [ZMf,Zkq]) .no Tryz.func12 [] (fun v vals x z ha hz=>.trans (by kernel_rfl) (rofF_eq hz)) ⟨ZKg,rnew_k,tr⟩)
end Go.Eng
set_option maxRecDepth 100000
set_option maxHeartbeats 4000000
namespace Go.Eng
open Go.Proofs Go.RowKit
noncomputable def Zwe:FuncId×Con:=(151,⟨[.slice (.int .u64)],[.leaf 0],fun p=>Zqa p⟩)
theorem cut_r:KR Zwe:=Zwj (C:=cf2 [] []) (.n (.f (.j [] [] [.s 0 (.dat (.slice (.int .u64)))] (.f (.l [] [] [.s 0 (.dat (.slice (.int .u64)))] 0 [] [] [.s 0 (.dat (.slice (.int .u64)))] (.f (.f (.f (.j [0] [] [.s 14 (.dat .bool)] .no))))))))) Tryz.func151 [] [.slice (.int .u64)] [.slice (.int .u64)] (fun x=>(x)) (fun z=>(Zc 18446744073709551616 z)) (fun v vals x z ha hz=>by obtain ⟨c0,e0,p0⟩:=ha;exact .trans (by kernel_rfl) (by cases hz;exact (cut_eq (ZRn p0).1 (ZRn p0).2)))
theorem ZHg:KQ Zwe:=Zh cut_r
end Go.Eng
set_option maxRecDepth 100000
set_option maxHeartbeats 4000000
namespace Go.Eng
open Go.Proofs Go.RowKit
noncomputable def Zrh:FuncId×Con:=(128,⟨[.int .u64],[.leaf 0],fun p=>ZXb p⟩)
theorem Z3q:KR Zrh:=Zx (C:=cf2 [(55,0)] [Zwe]) .no Tryz.func128 [] (fun v vals x z ha hz=>.trans (by kernel_rfl) (ZCw hz)) ⟨ZHg,tr⟩
theorem ZCl:KQ Zrh:=Zh Z3q
end Go.Eng
set_option maxRecDepth 100000
set_option maxHeartbeats 4000000
namespace Go.Eng
open Go.Proofs Go.RowKit
noncomputable def of_q:FuncId×Con:=(94,⟨[.int .i64],[.leaf 2],fun p=>ofF p⟩)
theorem of_k:KQ of_q:=Zh (Zx (C:=cf0 [Zrh] [] [] []) .no Tryz.func94 [] (fun v vals x z ha hz=>by obtain ⟨c0,e0,p0⟩:=ha;exact .trans (by kernel_rfl) (ofF_eq p0.2 hz)) ⟨ZCl,tr⟩)
end Go.Eng
set_option maxRecDepth 100000
set_option maxHeartbeats 4000000
namespace Go.Eng
open Go.Proofs Go.RowKit
noncomputable def Ztl:FuncId×Con:=(54,⟨[.int .i64],[.leaf 3],fun p=>ZQg p⟩)
theorem Zhr:KQ Ztl:=Zh (Zx (C:=cf0 [of_q] [] [] []) .no Tryz.func54 [] (fun v vals x z ha hz=>.trans (by kernel_rfl) (Z8u hz)) ⟨of_k,tr⟩)
end Go.Eng
set_option maxRecDepth 100000
set_option maxHeartbeats 4000000
namespace Go.Eng
open Go.Proofs Go.RowKit
noncomputable def Zlq:FuncId×Con:=(175,⟨[.int .u64],[.int .i64],fun p=>ZPh p⟩)
theorem len64_k:KQ Zlq:=Zh (Zx (C:=cf2 [] []) (.n (.two (.n (.j [] [] [.s 0 (.dat (.int .u64)),.s 2 (.dat (.int .i64))] .no)) (.two (.n (.j [] [] [.s 0 (.dat (.int .u64)),.s 2 (.dat (.int .i64))] .no)) (.f (.n (.j [] [] [.s 0 (.dat (.int .u64)),.s 2 (.dat (.int .i64))] .no)))))) Tryz.func175 [] (fun v vals x z ha hz=>.trans (by kernel_rfl) (Zzy hz)))
end Go.Eng
set_option maxRecDepth 100000
set_option maxHeartbeats 4000000
namespace Go.Eng
open Go.Proofs Go.RowKit
noncomputable def Zin:FuncId×Con:=(163,⟨[.int .u64],[.int .i64],fun p=>Zqd p⟩)
theorem Z1o:KR Zin:=Zx (C:=cf2 [] [Zlq]) .no Tryz.func163 [] (fun v vals x z ha hz=>.trans (by kernel_rfl) (Zfw hz)) ⟨len64_k,tr⟩
theorem lz64_k:KQ Zin:=Zh Z1o
end Go.Eng
set_option maxRecDepth 100000
set_option maxHeartbeats 4000000
namespace Go.Eng
open Go.Proofs Go.RowKit
noncomputable def Zgl:FuncId×Con:=(150,⟨[.int .u64,.int .u64,.int .u64],[.int .u64,.int .u64],fun p=>ZLc p.1 p.2.1 p.2.2⟩)
theorem Zgq:KR Zgl:=Zx (C:=cf2 [] [Zin]) (.n (.n (.n (.n (.n (.n (.n (.n (.n (.n (.n (.n (.n (.n (.two (.j [2,8,9,10,11,13,14] [] [.s 15 (.dat (.int .u64))] (.f (.l [2,8,9,10,11,13,14] [] [.s 15 (.dat (.int .u64)),.s 16 (.dat (.int .u64))] 0 [2,8,9,10,11,13,14] [] [.s 15 (.dat (.int .u64))] (.f (.f (.f (.j [2,8,9,10,11,13,14,15,16] [] [.s 78 (.dat .bool)] .no))))))) (.n (.n (.n (.f (.j [2,8,14,15,17] [] [.s 18 (.dat (.int .u64))] (.f (.l [2,8,9,10,14,15,17] [] [.s 16 (.dat (.int .u64)),.s 18 (.dat (.int .u64))] 2 [2,8,14,15,17] [] [.s 18 (.dat (.int .u64))] (.f (.f (.f (.j [2,8,9,10,14,15,16,17,18] [] [.s 113 (.dat .bool)] .no)))))))))))))))))))))))))) Tryz.func150 [] (fun v vals x z ha hz=>.trans (by kernel_rfl) (Zkx hz)) ⟨lz64_k,tr⟩
theorem div64_k:KQ Zgl:=Zh Zgq
end Go.Eng
set_option maxRecDepth 100000
set_option maxHeartbeats 4000000
namespace Go.Eng
open Go.Proofs Go.RowKit
noncomputable def Zvx:FuncId×Con:=(118,⟨[.leaf 0,.int .u64],[.leaf 0,.int .u64],fun p=>Zdd p.1 p.2⟩)
theorem Zeu:KR Zvx:=Zx (C:=cf2 [(55,0)] [Zgl,Zwe]) (.n (.n (.n (.f (.n (.j [] [] [.s 6 (.own 153 (.int .u64)),.s 7 (.dat (.int .u64))] (.f (.l [0,1] [] [.s 6 (.own 153 (.int .u64)),.s 7 (.dat (.int .u64)),.s 8 (.dat (.int .i64))] 0 [] [] [.s 6 (.own 153 (.int .u64)),.s 7 (.dat (.int .u64))] .no)))))))) Tryz.func118 [] (fun v vals x z ha hz=>by obtain ⟨c0,w0,e0,p0,c1,e1,p1⟩:=ha;exact .trans (by kernel_rfl) (Zcv p1.2 hz)) ⟨div64_k,ZHg,tr⟩
end Go.Eng
namespace Go.Eng
open Go.Proofs Go.RowKit
theorem ZBp {h:World} {b:Zb} (hv:VIn b h) {c:List Value} {a:Nat} (i:Rep.rel Zs b c a) {d:List Value} {n:Int} (j:Rep.rel (Zd .u64) b d n) {z:Nat×Int} (hm:Zdd a n=some z) :
  Ret Tryz.prog 118 #[Zs.val c,(Zd .u64).val d] h b (fun y v'=>∃ f g,y=Value.tuple #[Zs.val f,(Zd .u64).val g]∧Zs.rel v' f z.1∧(Zd .u64).rel v' g z.2) :=
 (Zeu h b [Zs.val c,(Zd .u64).val d] (a,n) z hv ⟨c,_,rfl,i,d,rfl,j⟩ hm).2.mono fun y v' _ ⟨_,e,f,_,q,k,g,q',l⟩=>by subst q';subst q;exact ⟨f,g,e,k,l⟩
end Go.Eng
set_option maxRecDepth 100000
set_option maxHeartbeats 4000000
namespace Go.Eng
open Go.Proofs Go.RowKit
noncomputable def ZSj:FuncId×Con:=(162,⟨[.leaf 0,.leaf 0],[.int .i64],fun p=>ZNc p.1 p.2⟩)
theorem cmp_r:KR ZSj:=Zwj (C:=cf2 [] []) (.n (.n (.f (.n (.cut ⟨⟨[],[],[]⟩,[(.norm,⟨[],[],[]⟩),(.ret,⟨[],[],[.s 1000 (.dat (.int .i64))]⟩)]⟩ (.f (.cut ⟨⟨[0,1],[],[.s 5 (.dat (.int .i64))]⟩,[(.ret,⟨[],[],[.s 1000 (.dat (.int .i64))]⟩),(.exit 0,⟨[],[],[]⟩)]⟩ .no))))))) Tryz.func162 [] [.slice (.int .u64),.slice (.int .u64)] [.int .i64] (fun x=>((Zc 18446744073709551616 x.1),(Zc 18446744073709551616 x.2))) (fun z=>z) (fun v vals x z ha hz=>by obtain ⟨c0,w0,e0,p0,c1,e1,p1⟩:=ha;exact .trans (by kernel_rfl) ((cmp_eq (Zus p0) (Zus p1)).trans hz))
theorem cmp_k:KQ ZSj:=Zh cmp_r
end Go.Eng
namespace Go.Eng
open Go.Proofs Go.RowKit
theorem cmp_c {f:World} {c:Zb} (hv:VIn c f) {d:List Value} {a:Nat} (h:Rep.rel Zs c d a) {e:List Value} {b:Nat} (i:Rep.rel Zs c e b) {z:Int} (hm:ZNc a b=some z) :
  Ret Tryz.prog 162 #[Zs.val d,Zs.val e] f c (fun y v'=>∃ g,y=(Zd .i64).val g∧(Zd .i64).rel v' g z) :=
 (cmp_r f c [Zs.val d,Zs.val e] (a,b) z hv ⟨d,_,rfl,h,e,rfl,i⟩ hm).2
theorem ZTi {d:World} {b:Zb} (hv:VIn b d) {c:List Value} {a:(List Int)} (f:Rep.rel (Zl (Zd .u64)) b c a) {z:Nat} (hm:Zqa a=some z) :
  Ret Tryz.prog 151 #[(Zl (Zd .u64)).val c] d b (fun y v'=>∃ e,y=Zs.val e∧Zs.rel v' e z) :=
 (cut_r d b [(Zl (Zd .u64)).val c] (a) z hv ⟨c,rfl,f⟩ hm).2
theorem div64_c {h:World} {a:Zb} (hv:VIn a h) {b:List Value} {hi:Int} (i:Rep.rel (Zd .u64) a b hi) {c:List Value} {lo:Int} (j:Rep.rel (Zd .u64) a c lo) {d:List Value} {y:Int} (k:Rep.rel (Zd .u64) a d y) {z:Int×Int} (hm:ZLc hi lo y=some z) :
  Ret Tryz.prog 150 #[(Zd .u64).val b,(Zd .u64).val c,(Zd .u64).val d] h a (fun y v'=>∃ f g,y=Value.tuple #[(Zd .u64).val f,(Zd .u64).val g]∧(Zd .u64).rel v' f z.1∧(Zd .u64).rel v' g z.2) :=
 (Zgq h a [(Zd .u64).val b,(Zd .u64).val c,(Zd .u64).val d] (hi,lo,y) z hv ⟨b,_,rfl,i,c,_,rfl,j,d,rfl,k⟩ hm).2.mono fun y v' _ ⟨_,e,f,_,q,l,g,q',m⟩=>by subst q';subst q;exact ⟨f,g,e,l,m⟩
end Go.Eng
set_option maxRecDepth 100000
set_option maxHeartbeats 4000000
namespace Go.Eng
open Go.Proofs Go.RowKit
noncomputable def ZMm:FuncId×Con:=(160,⟨[.int .u64,.int .u64],[.int .u64,.int .u64],fun p=>Z8b p.1 p.2⟩)
theorem ZEo:KR ZMm:=Zx (C:=cf2 [] []) .no Tryz.func160 [] (fun v vals x z ha hz=>.trans (by kernel_rfl) (Zjx hz))
theorem mul64_k:KQ ZMm:=Zh ZEo
end Go.Eng
namespace Go.Eng
open Go.Proofs Go.RowKit
theorem Z4m {g:World} {a:Zb} (hv:VIn a g) {b:List Value} {x:Int} (h:Rep.rel (Zd .u64) a b x) {c:List Value} {y:Int} (i:Rep.rel (Zd .u64) a c y) {z:Int×Int} (hm:Z8b x y=some z) :
  Ret Tryz.prog 160 #[(Zd .u64).val b,(Zd .u64).val c] g a (fun y v'=>∃ d f,y=Value.tuple #[(Zd .u64).val d,(Zd .u64).val f]∧(Zd .u64).rel v' d z.1∧(Zd .u64).rel v' f z.2) :=
 (ZEo g a [(Zd .u64).val b,(Zd .u64).val c] (x,y) z hv ⟨b,_,rfl,h,c,rfl,i⟩ hm).2.mono fun y v' _ ⟨_,e,d,_,q,j,f,q',k⟩=>by subst q';subst q;exact ⟨d,f,e,j,k⟩
end Go.Eng
namespace Go.Eng
open Go.RowKit
theorem ZE {α:Type _} {a b:α} (h:some a=some b):a=b:=Option.some.inj h
theorem Z8a (b:Bool):b=true∨b=false:=(Bool.eq_false_or_eq_true b)
theorem leT {a b c:Zb} (h:a.le b) (k:b.le c):a.le c:=Zb.le_trans h k
theorem leR (v:Zb):v.le v:=Zb.le_refl v
theorem bO {α β:Type _} {x:Option α} {f:α→Option β} {z:β} {G:Prop} (h:bnd x f=some z) (k:∀ y,x=some y→f y=some z→G):G:=by obtain ⟨y,e,h⟩:=Zea h;exact k y e h
theorem ZP {P:Program} {Q:Exit→Act→World→Prop} {a:Act} {w:World} {id:Nat} {l:List Oper} (h:wpList P l.toArray Q l a w):(Code.region id l.toArray false).wp P Q a w:=wp_region_lit h
theorem Zz {P:Program} {Q:Exit→Act→World→Prop} {a:Act} {w:World} {x y:Code} (h:∀ K:Act→World→Prop,(∀ a w,y.wp P Q a w→K a w)→x.wp P (Exit.then K Q) a w):(Code.seq x y).wp P Q a w:=wp_seq_k h
theorem Zoa {α:Type} {A:Rep α} {v v':Zb} {cs:List Value} {x:α} (hv:v.le v') (h:A.rel v cs x):A.rel v' cs x:=A.mono hv h
theorem Rflat {α:Type} (A:Rep α) {v:Zb} {cs:List Value} {x:α} (h:A.rel v cs x):cs.all plain=true:=A.flat h
theorem Atm {v v':Zb} {b off:Nat} {cs:List Value} (h:v.le v') (k:At v b off cs):At v' b off cs:=At.mono h k
end Go.Eng
namespace Go.Eng
open Go.Proofs Go.RowKit
theorem ZPr:Zzh Tryz.prog 227 20 1:=⟨5,fun _=>by kernel_rfl,fun _=>by kernel_rfl⟩
theorem ZLt:ConvI Tryz.prog 153 5 .u64 .u8:=fun _ _=>by kernel_rfl
theorem ZYs:Elem Tryz.prog 183 9 1 16 (Value.string (Zr [])):=⟨Tryz.underlying183,by kernel_rfl,rfl,by decide⟩
theorem ZWh:Elem Tryz.prog 55 153 1 8 (Value.int IntKind.u64 0):=⟨Tryz.underlying55,by kernel_rfl,rfl,by decide⟩
theorem ZQp:ZG Tryz.prog 118:=fun _ _=>by kernel_rfl
theorem k_en119:ZG Tryz.prog 119:=fun _ _=>by kernel_rfl
theorem k_en120:ZG Tryz.prog 120:=fun _ _=>by kernel_rfl
theorem k_en121:ZG Tryz.prog 121:=fun _ _=>by kernel_rfl
theorem k_en122:ZG Tryz.prog 122:=fun _ _=>by kernel_rfl
theorem k_en128:ZG Tryz.prog 128:=fun _ _=>by kernel_rfl
theorem k_en150:ZG Tryz.prog 150:=fun _ _=>by kernel_rfl
theorem Zxj:ZG Tryz.prog 151:=fun _ _=>by kernel_rfl
theorem ZCn:ZG Tryz.prog 160:=fun _ _=>by kernel_rfl
theorem Zdq:ZG Tryz.prog 162:=fun _ _=>by kernel_rfl
theorem k_en163:ZG Tryz.prog 163:=fun _ _=>by kernel_rfl
theorem Z0s:ZG Tryz.prog 164:=fun _ _=>by kernel_rfl
theorem k_en165:ZG Tryz.prog 165:=fun _ _=>by kernel_rfl
theorem k_en166:ZG Tryz.prog 166:=fun _ _=>by kernel_rfl
theorem k_en177:ZG Tryz.prog 177:=fun _ _=>by kernel_rfl
theorem Zts:ZTe Tryz.prog 176 add64Entry:=⟨_,Tryz.func176,by kernel_rfl,by kernel_rfl,by kernel_rfl,by kernel_rfl⟩
theorem Zfy:ZTe Tryz.prog 180 ZOi:=⟨_,Tryz.func180,by kernel_rfl,by kernel_rfl,by kernel_rfl,by kernel_rfl⟩
theorem ZRm:Tryz.prog.follows .mixedOrders=true:=by kernel_rfl
theorem ZNm:Zlb Tryz.prog 183 9 1:=⟨fun _=>by kernel_rfl,fun _=>by kernel_rfl⟩
theorem Z6:Zlb Tryz.prog 55 153 1:=⟨fun _=>by kernel_rfl,fun _=>by kernel_rfl⟩
theorem Z5a:Sized Tryz.prog 153 1 false:=⟨fun _=>by kernel_rfl,fun _=>by kernel_rfl⟩
theorem k_sz5:Sized Tryz.prog 5 1 false:=⟨fun _=>by kernel_rfl,fun _=>by kernel_rfl⟩
theorem k_sz9:Sized Tryz.prog 9 1 false:=⟨fun _=>by kernel_rfl,fun _=>by kernel_rfl⟩
theorem k_zv191:∀ w,(zeroValue 191).run Tryz.prog w = .ok (Value.agg #[Value.pointer none,Value.slice none 0 0]) w:=fun _=>by kernel_rfl
theorem k_zv227:∀ w,(zeroValue 227).run Tryz.prog w = .ok (Value.agg #[Value.int IntKind.u8 0,Value.int IntKind.u8 0,Value.int IntKind.u8 0,Value.int IntKind.u8 0,Value.int IntKind.u8 0,Value.int IntKind.u8 0,Value.int IntKind.u8 0,Value.int IntKind.u8 0,Value.int IntKind.u8 0,Value.int IntKind.u8 0,Value.int IntKind.u8 0,Value.int IntKind.u8 0,Value.int IntKind.u8 0,Value.int IntKind.u8 0,Value.int IntKind.u8 0,Value.int IntKind.u8 0,Value.int IntKind.u8 0,Value.int IntKind.u8 0,Value.int IntKind.u8 0,Value.int IntKind.u8 0]) w:=fun _=>by kernel_rfl
theorem take_w {R:World} {o:Zb} (hv:VIn o R) {a off0 g C:Nat} {E:TypeId} {pre0 cs0 post0:List Value} {u:(List Int)} (bg:R.heap[a]? = some (.cells (pre0++cs0++post0).toArray E (0,0))) (aH:off0=pre0.length) (bh:o a=none) (au:g=u.length) (bi:g≤C∧C≤maxLen) (r:Rep.rels (Zd .u64) o cs0 u) {c1:List Value} {v:Nat} (D:Rep.rel Zs o c1 v) {c2:List Value} {q:Int} (p2:Rep.rel (Zd .u64) o c2 q) {z:Bool×(List Int)} (H:Zdi u v q=some z):ZHc Tryz.prog 177 #[.slice (some ⟨a,off0,none⟩) g C,Zs.val c1,(Zd .u64).val c2] R o [a] (fun y v' w'=>(∃ r0,y=ZTc.val r0∧ZTc.rel v' r0 z.1)∧v' a=none∧∃ cs,w'.heap[a]? = some (.cells (pre0++cs++post0).toArray E (0,0))∧g=z.2.length∧Rep.rels (Zd .u64) v' cs z.2):=by
 obtain ⟨q1,V,W,rfl⟩:=Zza D;obtain ⟨rfl,r4⟩:=p2;refine ZBr (K:=79) (args:=[.slice (some ⟨a,off0,none⟩) (g) C,.slice q1 V W,.int .u64 q]) hv bg bh Tryz.func177 rfl rfl zl fun f S=>?_;unfold Zdi at H;refine sr (mw S rfl fun f S=>oe (Zz fun _ bj=>bO H fun J bk H=>bO H fun cH av H=>ZP (mv S rfl fun f S=>ov S rfl (ZKb S (ZWa D) rfl rfl Z6) fun f S=>ov S rfl (ZA S rfl rfl (Zsf bk)) fun f S=>?_)));obtain ⟨aI,aR⟩:∃ c:List Value,c=(List.replicate (J).toNat [.int .u64 0]).flatten:=⟨_,rfl⟩;obtain ⟨aS,w,bm,S⟩:=ZCp ZWh S (l:=J) (c:=J) (Zmd av).1 (Zmd av).2.1 (Zmd av).2.2.1 (Zmd av).2.2.2 aR;have bn:Rep.rels (Zd .u64) o aI (List.replicate (J).toNat (0:Int)):=by rw [aR];exact Z6g (show Rep.rel (Zd .u64) _ [.int .u64 0] _ from (Z0 (by decide))) _
 refine Zkc wn rfl zl (bm rfl rfl) S fun f S=>mw S rfl fun f S=>ZJ (Zp (bj _ _ (sr (mw S rfl fun f S=>oe (Zz fun _ bo=>sr (mv S rfl fun f S=>ov S rfl (ZKb S (ZWa D) rfl rfl Z6) fun f S=>mv S rfl fun f S=>oe ?_))))));obtain ⟨bp,bq,br⟩:=Zea H;refine ZQc (fun f w=>∃ L b aJ s G h X,(L,b)=bp∧Zb.le o X∧St 79 ⟨R,[a]⟩ o [(0,.slice (some ⟨a,off0,none⟩) (g) C),(1,.slice q1 V W),(7,.slice (mkA aJ) s G),(8,.int .u64 b)] [Loc.box a E (pre0++cs0++post0),Loc.own aJ 153 1 s G h] X f w∧Rep.rels (Zd .u64) X h L∧s=L.length∧inR .u64 b) (fun _ bs=>?_) ?_
 ·have H:=bq;refine wp_block ?_;obtain ⟨cI,bt,bu⟩:=Zea H;have S:=S.reorder (ℓ':=[Loc.box a E (pre0++cs0++post0),Loc.own (some aS) 153 1 ((J).toNat) (J).toNat aI]) [1,0] rfl (by decide);refine ZFd bt (fun bv f w=>∃ Y ag m ax M Z I ay,(Y,ag,m)=bv∧Zb.le o ay∧St 79 ⟨R,[a]⟩ o [(0,.slice (some ⟨a,off0,none⟩) (g) C),(1,.slice q1 V W),(2,.int .u64 q),(7,.slice (mkA ax) M Z),(8,.int .u64 ag),(20,.slice q1 V W),(21,.int .i64 ((((Zc 18446744073709551616 v)).length:Int))),(22,.int .i64 m)] [Loc.box a E (pre0++cs0++post0),Loc.own ax 153 1 M Z I] ay f w∧Rep.rels (Zd .u64) ay I Y∧M=Y.length∧inR .u64 ag∧inR .i64 m) ⟨_,_,_,some aS,(J).toNat,(J).toNat,aI,_,rfl,(leR _),(S.fr' rfl),bn,(repN (x:=(0:Int))),(by decide),(by decide)⟩ ?_;rintro _ f w st ⟨Y,ag,m,ax,M,Z,I,ay,hq,az,S,ah,ai,bw,cJ⟩ H cK bx bz;subst hq;have r:=ZI az r;refine sr (ov S rfl (ZA S rfl rfl Z3d) fun f S=>oe (Zz fun _ bA=>?_));rcases Z8a (decide (m<(((Zc 18446744073709551616 v)).length:Int))) with aj | aj
  ·have H:=Zbb H aj;refine Zgb S rfl aj (wp_skip (Zp (bA _ _ (Zz fun _ bB=>wp_block (Zz fun _ bC=>bO H fun aK aL H=>ZP (mv S rfl fun f S=>?_))))));have D:=Zoa az D;obtain ⟨_,aT,aU,cL,rfl,bD,bE⟩:=ZWb D (Zn aL).2.1;obtain ⟨rfl,bG⟩:=bE;refine ov S rfl (Zfa S rfl rfl Z6 (Zn aL).1 (ltI (ZWa D) (Zn aL).2.2.1)) fun f S=>ov S rfl (ZYa S rfl Z5a (S.view bD)) fun f S=>mw S rfl fun f S=>mw S rfl fun f S=>ZJ (Zp (bC _ _ (Zz fun _ bH=>bO H fun aV bI H=>ZP (mv S rfl fun f S=>mv S rfl fun f S=>opc S rfl (Zka S [.int .u64 aK,.int .u64 q] ZCn rfl rfl) (Z4m S.vin (show Rep.rel (Zd .u64) _ [.int .u64 aK] aK from (Z0 bG)) (show Rep.rel (Zd .u64) _ [.int .u64 q] q from (Z0 r4)) bI) ?_))));rintro _ aW f w aM ⟨cM,cN,rfl,bJ,bK⟩ S;have r:=ZI aM r;have ah:=ZI aM ah;obtain ⟨rfl,cO⟩:=bJ;obtain ⟨rfl,cP⟩:=bK;refine mv S rfl fun f S=>ov S rfl (Zta S rfl rfl) fun f S=>ov S rfl (Zta S rfl rfl) fun f S=>mw S rfl fun f S=>mw S rfl fun f S=>ZJ (Zp (bH _ _ (sr (mw S rfl fun f S=>oe (Zz fun _ bM=>bO H fun N aX H=>bO H fun cQ aa H=>ZP ?_)))));refine mv S rfl fun f S=>mv S rfl fun f S=>mv S rfl fun f S=>mv S rfl fun f S=>ov S rfl (Ztk S [.int .u64 (aV.2),.int .u64 ag,.int .u64 0] (ZFl Zts aX) rfl rfl) fun f S=>mv S rfl fun f S=>ov S rfl (Zta S rfl rfl) fun f S=>ov S rfl (Zta S rfl rfl) fun f S=>?_
   obtain ⟨aY,rfl⟩:=ZRc S (j:=1) rfl (posN ai (Zn aa).2.2.2);have aZ:=Zxa ah (Zn aa).2.1;obtain ⟨cR,bP⟩:∃ c,(List.take (Zd .u64).n (List.drop ((m).toNat*(Zd .u64).n) I))=c:=⟨_,rfl⟩;rw [bP] at aZ;obtain ⟨rfl,cS⟩:=aZ;refine ov S rfl (Zfa S rfl rfl Z6 (Zn aa).1 (ltI ai (Zn aa).2.2.1)) fun f S=>?_;obtain ⟨w,bQ,S⟩:=Zjd S Z5a (off:=0+(m).toNat*1) (z:=.int .u64 (N.1)) (cs:=[.int .u64 (N.1)]) (Zxc rfl) rfl (i:=1) rfl (ZVh S (j:=1) rfl (ltN ai (Zn aa).2.2.2)) (by first | rfl | simp [plain]);have bR:Rep.rels (Zd .u64) aW (List.take (0+(m).toNat*1) I++[Value.int IntKind.u64 (N.1)]++List.drop (0+(m).toNat*1+1) I) (Y.set (m).toNat N.1):=ZIg ah (Zn aa).2.2.2 (show Rep.rel (Zd .u64) aW [.int .u64 (N.1)] _ from (Z0 (Zfn aX))) rfl rfl;have bS:M=(Y.set (m).toNat N.1).length:=setN ai;refine ZMi wn rfl (bQ rfl rfl) (mw S rfl fun f S=>ZJ ?_);have S:=S.fr' (σ':=[(0,.slice (some ⟨a,off0,none⟩) (g) C),(1,.slice (some ⟨aT,aU,none⟩) V W),(2,.int .u64 q),(7,.slice (mkA (some aY)) (M) Z),(11,.int .u64 (aV.1)),(13,.int .u64 (N.2)),(20,.slice (some ⟨aT,aU,none⟩) V W),(21,.int .i64 ((((Zc 18446744073709551616 v)).length:Int))),(22,.int .i64 m)]) rfl
   refine Zp (bM _ _ (ZP (mv S rfl fun f S=>mv S rfl fun f S=>ov S rfl (ZA S rfl rfl ZPm) fun f S=>mw S rfl fun f S=>ZJ (Zod (Zp (bB _ _ (bO H fun cT a0 H=>ZP (ov S rfl (ZA S rfl rfl (Zsf a0)) fun f S=>mv S rfl fun f S=>ZJ ?_))))))));obtain rfl:=ZE H;refine bx _ rfl _ _ ⟨_,_,_,some aY,M,Z,(List.take (0+(m).toNat*1) I++[Value.int IntKind.u64 (N.1)]++List.drop (0+(m).toNat*1+1) I),_,rfl,(leT az aM),(S.fr' rfl),bR,bS,(ZAb _ _),(Zqb a0).2⟩
  have H:=Zib H aj;refine Zwa S rfl aj (wp_exit (ZRa ?_));obtain rfl:=ZE H;have hq:=bz _ rfl;subst hq;have H:=bu;refine ZRa (Zrd ?_);obtain rfl:=ZE H;refine Zp (bs _ _ ⟨_,_,ax,M,Z,I,_,rfl,(leT (leR _) az),(S.fr' rfl),ah,ai,bw⟩)
 rintro f w ⟨L,b,aJ,s,G,h,X,hq,a1,S,a2,aA,bT⟩;subst hq;have H:=br;have r:=ZI a1 r;refine Zp (bo _ _ (Zz fun _ bU=>bO H fun cU ab H=>ZP (mv S rfl fun f S=>mv S rfl fun f S=>?_)));have D:=Zoa a1 D;refine ov S rfl (ZKb S (ZWa D) rfl rfl Z6) fun f S=>mv S rfl fun f S=>?_;obtain ⟨ac,rfl⟩:=ZRc S (j:=1) rfl (posN aA (Zn ab).2.2.2);have a3:=Zxa a2 (Zn ab).2.1;obtain ⟨cV,bV⟩:∃ c,(List.take (Zd .u64).n (List.drop (((((Zc 18446744073709551616 v)).length:Int)).toNat*(Zd .u64).n) h))=c:=⟨_,rfl⟩;rw [bV] at a3;obtain ⟨rfl,cW⟩:=a3;refine ov S rfl (Zfa S rfl rfl Z6 (Zn ab).1 (ltI aA (Zn ab).2.2.1)) fun f S=>?_;obtain ⟨w,bW,S⟩:=Zjd S Z5a (off:=0+((((Zc 18446744073709551616 v)).length:Int)).toNat*1) (z:=.int .u64 b) (cs:=[.int .u64 b]) (Zxc rfl) rfl (i:=1) rfl (ZVh S (j:=1) rfl (ltN aA (Zn ab).2.2.2)) (by first | rfl | simp [plain]);have p:Rep.rels (Zd .u64) X (List.take (0+((((Zc 18446744073709551616 v)).length:Int)).toNat*1) h++[Value.int IntKind.u64 (b)]++List.drop (0+((((Zc 18446744073709551616 v)).length:Int)).toNat*1+1) h) (L.set ((((Zc 18446744073709551616 v)).length:Int)).toNat b):=ZIg a2 (Zn ab).2.2.2 (show Rep.rel (Zd .u64) X [.int .u64 b] _ from (Z0 bT)) rfl rfl
 have aN:s=(L.set ((((Zc 18446744073709551616 v)).length:Int)).toNat b).length:=setN aA;refine ZMi wn rfl (bW rfl rfl) (ZJ (Zp (bU _ _ (Zz fun _ bX=>Zz fun _ bY=>bO H fun cX bZ H=>bO H fun cY b1 H=>bO H fun b2 b3 H=>ZP (mv S rfl fun f S=>?_)))));have p0s120:=r;have h69s120:=p;have b4:=S.vst.le;obtain ⟨cZ,c0,a4,t,S,b5,b6,b7,T⟩:=S.lendSeg (i:=0) (A:=(Zd .u64)) (l:=u) (ℓ':=[Loc.own (some ac) 153 1 s G ((List.take (0+((((Zc 18446744073709551616 v)).length:Int)).toNat*1) h++[Value.int IntKind.u64 (b)]++List.drop (0+((((Zc 18446744073709551616 v)).length:Int)).toNat*1+1) h))]) rfl rfl aH r au bi;have p:=ZI a4 p;refine opc S rfl (Zka S [.slice (some ⟨a,off0,none⟩) (g) C] Zxj rfl rfl) (ZTi S.vin (show Rep.rel (Zl (Zd .u64)) _ [.slice (some ⟨a,off0,none⟩) (g) C] u from T) bZ) ?_;rintro _ c3 f w aB ⟨c4,rfl,P⟩ S;have p:=ZI aB p;have t:=aB _ _ t;obtain ⟨b8,b9,ca,rfl⟩:=Zza P;refine mv S rfl fun f S=>?_;have T:=Zoa aB T;have h128s137:=T;have h69s137:=p;have h133s137:=P;have h124s137:=t;have cb:=S.vst.le;obtain ⟨c5,c6,aC,ak,S,cc,ce,cg,ch⟩:=S.lendSlice (i:=0) (A:=(Zd .u64)) (l:=(L.set ((((Zc 18446744073709551616 v)).length:Int)).toNat b)) (ℓ':=[]) rfl rfl rfl p aN
 have t:=aC _ _ t;refine opc S rfl (Zka S [.slice (mkA (some ac)) (s) G] Zxj rfl rfl) (ZTi S.vin (show Rep.rel (Zl (Zd .u64)) _ [.slice (mkA (some ac)) (s) G] ((L.set ((((Zc 18446744073709551616 v)).length:Int)).toNat b)) from ch) b1) ?_;rintro _ c7 f w al ⟨c8,rfl,a5⟩ S;have t:=al _ _ t;have ak:=al _ _ ak;obtain ⟨ci,cj,ck,rfl⟩:=Zza a5;have P:=Zoa (leT aC al) P;refine opc S rfl (Zka S [.slice b8 b9 ca,.slice ci cj ck] Zdq rfl rfl) (cmp_c S.vin P a5 b3) ?_;rintro _ c9 f w am ⟨da,rfl,cl⟩ S;have t:=am _ _ t;have ak:=am _ _ ak;obtain ⟨rfl,db⟩:=cl;refine ov S rfl (ZA S rfl rfl Z3d) fun f S=>ZJ ?_;obtain ⟨dc,an,S⟩:=S.takeBack (e:=Loc.own (some ac) 153 1 s G ((List.take (0+((((Zc 18446744073709551616 v)).length:Int)).toNat*1) h++[Value.int IntKind.u64 (b)]++List.drop (0+((((Zc 18446744073709551616 v)).length:Int)).toNat*1+1) h))) (leT (leT aC al) am) rfl ak cc ce cb cg;have T:=Zoa (leT (leT aC al) am) T;have T:=Zoa an h128s137;have p:=ZI an h69s137;have P:=Zoa am P;have P:=Zoa an h133s137;have t:=an _ _ h124s137;obtain ⟨a6,a7,S⟩:=S.takeBack (e:=Loc.box a E (pre0++cs0++post0)) (leT (leT a4 aB) an) rfl t b5 b6 b4 b7;have r:=ZI a7 p0s120
 have p:=ZI a7 h69s120;refine Zp (bY _ _ ?_);rcases Z8a (decide (b2<(0:Int))) with ao | ao
 ·have H:=Zbb H ao;refine Zgb S rfl ao (sr (mw S rfl fun f S=>oe (wp_ret (Zah ?_))));obtain rfl:=ZE H;refine Zzl S (ZFc rfl (ZMa S rfl)) ⟨⟨[.bool false],rfl,Zlr⟩,(S.boxAt (j:=0) rfl).2,_,(S.boxAt (j:=0) rfl).1,au,r⟩
 have H:=Zib H ao;refine Zwa S rfl ao (wp_skip (Zp (bX _ _ (sr (mw S rfl fun f S=>oe (Zz fun _ cm=>sr (mv S rfl fun f S=>ov S rfl (ZKb S au rfl rfl Z6) fun f S=>mv S rfl fun f S=>oe ?_)))))));obtain ⟨cn,co,cp⟩:=Zea H;refine ZQc (fun f w=>∃ aD aO aE,aD=cn∧Zb.le a6 aE∧St 79 ⟨R,[a]⟩ o [] [Loc.box a E (pre0++aO++post0)] aE f w∧Rep.rels (Zd .u64) aE aO aD∧g=aD.length) (fun _ cq=>?_) ?_
 ·have H:=co;refine wp_block ?_;obtain ⟨dd,cr,ct⟩:=Zea H;refine ZFd cr (fun cu f w=>∃ ad ap d B ae,(ad,ap,d)=cu∧Zb.le a6 ae∧St 79 ⟨R,[a]⟩ o [(0,.slice (some ⟨a,off0,none⟩) (g) C),(7,.slice (mkA (some ac)) (s) G),(14,.int .u64 ap),(58,.int .i64 ((u.length:Int))),(59,.int .i64 d)] [Loc.box a E (pre0++B++post0),Loc.own (some ac) 153 1 s G ((List.take (0+((((Zc 18446744073709551616 v)).length:Int)).toNat*1) h++[Value.int IntKind.u64 (b)]++List.drop (0+((((Zc 18446744073709551616 v)).length:Int)).toNat*1+1) h))] ae f w∧Rep.rels (Zd .u64) ae B ad∧g=ad.length∧inR .u64 ap∧inR .i64 d) ⟨_,_,_,cs0,_,rfl,(leR _),(S.fr' rfl),r,au,(by decide),(by decide)⟩ ?_;rintro _ f w st ⟨ad,ap,d,B,ae,hq,aP,S,af,Q,de,df⟩ H dg cv cw;subst hq;have p:=ZI aP p;refine sr (ov S rfl (ZA S rfl rfl Z3d) fun f S=>oe (Zz fun _ cx=>?_));rcases Z8a (decide (d<(u.length:Int))) with aq | aq
  ·have H:=Zbb H aq;refine Zgb S rfl aq (wp_skip (Zp (cx _ _ (Zz fun _ cy=>wp_block (sr (mv S rfl fun f S=>mw S rfl fun f S=>oe (bO H fun a8 aF H=>bO H fun a9 aG H=>bO H fun U aQ H=>bO H fun dh ar H=>ZUg (fl:=#[true,true,true,true,true,true,true,true,true,true,true,false,true,true,true,true,false,false]) ZRm (by kernel_rfl) S ?_)))))));intro ops O F w S;refine rfa O F 0 rfl rfl S (ZD S rfl) fun f S=>rfa O F 1 rfl rfl S (ZD S rfl) fun f S=>rfa O F 2 rfl rfl S (ZD S rfl) fun f S=>rfa O F 3 rfl rfl S (ZD S rfl) fun f S=>?_;have ba:=Zxa af (Zn aF).2.1;obtain ⟨di,bb⟩:∃ c,(List.take (Zd .u64).n (List.drop ((d).toNat*(Zd .u64).n) B))=c:=⟨_,rfl⟩;rw [bb] at ba;obtain ⟨rfl,cz⟩:=ba;refine rfa O F 4 rfl rfl S (Zfa S rfl rfl Z6 (Zn aF).1 (ltI Q (Zn aF).2.2.1)) fun f S=>rfa O F 5 rfl rfl S (ZYa S rfl Z5a (ZKh S (j:=0) rfl aH (Z0d af Q) bb (ltN Q (Zn aF).2.2.2) 0 [.int .u64 a8] rfl zl)) fun f S=>rfa O F 6 rfl rfl S (ZD S rfl) fun f S=>rfa O F 7 rfl rfl S (ZD S rfl) fun f S=>?_;have bc:=Zxa p (Zn aG).2.1;obtain ⟨dj,bd⟩:∃ c,(List.take (Zd .u64).n (List.drop ((d).toNat*(Zd .u64).n) (List.take (0+((((Zc 18446744073709551616 v)).length:Int)).toNat*1) h++[Value.int IntKind.u64 (b)]++List.drop (0+((((Zc 18446744073709551616 v)).length:Int)).toNat*1+1) h)))=c:=⟨_,rfl⟩
   rw [bd] at bc;obtain ⟨rfl,cA⟩:=bc;refine rfa O F 8 rfl rfl S (Zfa S rfl rfl Z6 (Zn aG).1 (ltI aN (Zn aG).2.2.1)) fun f S=>rfa O F 9 rfl rfl S (ZYa S rfl Z5a (ZCd S (j:=1) rfl bd (ltN aN (Zn aG).2.2.2) 0 [.int .u64 a9] rfl zl)) fun f S=>rfa O F 10 rfl rfl S (ZD S rfl) fun f S=>go1 O F 11 (nva [5,9,10,4,8,2,3,6,7] [0,1] O rfl rfl S (Ztk S [.int .u64 a8,.int .u64 a9,.int .u64 ap] (ZJp Zfy cz cA aQ) rfl rfl) fun f S=>⟨(py S rfl rfl (ZD S rfl) (py S rfl rfl (ZD S rfl) ZVb)),rfa O F 12 rfl rfl S (ZD S rfl) fun f S=>rfa O F 13 rfl rfl S (Zta S rfl rfl) fun f S=>rfa O F 14 rfl rfl S (Zta S rfl rfl) fun f S=>?_⟩);have be:=Zxa af (Zn ar).2.1;obtain ⟨dk,cB⟩:∃ c,(List.take (Zd .u64).n (List.drop ((d).toNat*(Zd .u64).n) B))=c:=⟨_,rfl⟩;rw [cB] at be;obtain ⟨rfl,dl⟩:=be;refine rfa O F 15 rfl rfl S (Zfa S rfl rfl Z6 (Zn ar).1 (ltI Q (Zn ar).2.2.1)) fun f S=>go1 O F 16 ?_;obtain ⟨w,cC,S⟩:=ZGu S (k:=(d).toNat) Z5a (z:=.int .u64 (U.1)) (c:=[.int .u64 (U.1)]) (Zxc rfl) rfl (i:=0) rfl aH (Z0d af Q) (ltN Q (Zn ar).2.2.2) rfl (by first | rfl | simp [plain]);have cD:Rep.rels (Zd .u64) ae (List.take (0+(d).toNat*1) B++[Value.int IntKind.u64 (U.1)]++List.drop (0+(d).toNat*1+1) B) (ad.set (d).toNat U.1):=ZIg af (Zn ar).2.2.2 (show Rep.rel (Zd .u64) ae [.int .u64 (U.1)] _ from (Z0 (Zaq aQ))) rfl rfl
   have cE:g=(ad.set (d).toNat U.1).length:=setN Q;refine nxs [0,1,2,3,4,5,6,7,8,9,10,11,12,13,15] [14] O rfl rfl (cC rfl rfl) (⟨(py S rfl rfl (Zta S rfl rfl) ZVb),go1 O F 17 (nva [0,1,2,3,4,5,6,7,8,9,10,11,12,13,14,15,16] [] O rfl rfl S (Z8c S rfl) fun f S=>⟨ZVb,fin1 O F (Zod (Zp (cy _ _ (bO H fun dm bf H=>ZP (ov S rfl (ZA S rfl rfl (Zsf bf)) fun f S=>mv S rfl fun f S=>ZJ ?_)))))⟩)⟩);obtain rfl:=ZE H;refine cv _ rfl _ _ ⟨_,_,_,(List.take (0+(d).toNat*1) B++[Value.int IntKind.u64 (U.1)]++List.drop (0+(d).toNat*1+1) B),_,rfl,aP,(S.fr' rfl),cD,cE,(Z7n aQ),(Zqb bf).2⟩
  have H:=Zib H aq;refine Zwa S rfl aq (wp_exit (ZRa ?_));obtain rfl:=ZE H;have hq:=cw _ rfl;subst hq;have H:=ct;refine ZRa (Zrd ?_);obtain rfl:=ZE H;have S:=S.reorder (ℓ':=[Loc.box a E (pre0++B++post0)]) [0] rfl (by decide);refine Zp (cq _ _ ⟨_,B,_,rfl,(leT (leR _) aP),(S.fr' rfl),af,Q⟩)
 rintro f w ⟨aD,aO,aE,hq,dn,S,cF,cG⟩;subst hq;have H:=cp;refine Zp (cm _ _ (sr (mw S rfl fun f S=>oe (wp_ret ?_))));obtain rfl:=ZE H;refine Zzl S (ZFc rfl (ZMa S rfl)) ⟨⟨[.bool true],rfl,Zlr⟩,(S.boxAt (j:=0) rfl).2,_,(S.boxAt (j:=0) rfl).1,cG,cF⟩
theorem take_c {d:World} {a:Zb} (hv:VIn a d) {b off0 c e:Nat} {f:TypeId} {pre0 cs0 post0:List Value} {u:(List Int)} (l:d.heap[b]? = some (.cells (pre0++cs0++post0).toArray f (0,0))) (m:off0=pre0.length) (n:a b=none) (o:c=u.length) (p:c≤e∧e≤maxLen) (g:Rep.rels (Zd .u64) a cs0 u) {h:List Value} {v:Nat} (r:Rep.rel Zs a h v) {i:List Value} {q:Int} (j:Rep.rel (Zd .u64) a i q) {z:Bool×(List Int)} (hm:Z9f u v q=some z) :
  ZHc Tryz.prog 177 #[Value.slice (some ⟨b,off0,none⟩) c e,Zs.val h,(Zd .u64).val i] d a [b] (fun y v' w'=>(∃ k,y=ZTc.val k∧ZTc.rel v' k z.1)∧v' b=none∧∃ cs,w'.heap[b]? = some (.cells (pre0++cs++post0).toArray f (0,0))∧c=z.2.length∧Rep.rels (Zd .u64) v' cs z.2) :=
 take_w hv l m n o p g r j (Z4x (ZMn g) j.2 hm)
theorem digit_w {x:World} {m:Zb} (hv:VIn m x) {a off0 e h:Nat} {A:TypeId} {pre0 cs0 post0:List Value} {u:(List Int)} (a1:x.heap[a]? = some (.cells (pre0++cs0++post0).toArray A (0,0))) (G:off0=pre0.length) (a2:m a=none) (k:e=u.length) (a3:e≤h∧h≤maxLen) (d:Rep.rels (Zd .u64) m cs0 u) {c1:List Value} {v:Nat} (g:Rep.rel Zs m c1 v) {z:Int×(List Int)} (H:Zhi u v=some z):ZHc Tryz.prog 165 #[.slice (some ⟨a,off0,none⟩) e h,Zs.val c1] x m [a] (fun y v' w'=>(∃ r0,y=(Zd .u64).val r0∧(Zd .u64).rel v' r0 z.1)∧v' a=none∧∃ cs,w'.heap[a]? = some (.cells (pre0++cs++post0).toArray A (0,0))∧e=z.2.length∧Rep.rels (Zd .u64) v' cs z.2):=by
 obtain ⟨q1,o,p,rfl⟩:=Zza g;refine ZBr (K:=90) (args:=[.slice (some ⟨a,off0,none⟩) (e) h,.slice q1 o p]) hv a1 a2 Tryz.func165 rfl rfl zl fun f S=>?_;unfold Zhi at H;refine sr (mw S rfl fun f S=>oe (sr (mv S rfl fun f S=>ov S rfl (ZKb S (ZWa g) rfl rfl Z6) fun f S=>mw S rfl fun f S=>oe (sr (mw S rfl fun f S=>oe (Zz fun _ a4=>Zz fun _ a5=>bO H fun aF V H=>?_))))));refine bO H fun cm a6 H=>bO H fun a7 aj H=>ZUg (fl:=#[true,true,true,true,true,true,true,true,true,true]) ZRm (by kernel_rfl) S ?_;intro ops O F w S;refine rfa O F 0 rfl rfl S (ZD S rfl) fun f S=>rfa O F 1 rfl rfl S (ZD S rfl) fun f S=>?_;have aG:=Zxa d (Zn V).2.1;obtain ⟨cn,aH⟩:∃ c,(List.take (Zd .u64).n (List.drop (((((Zc 18446744073709551616 v)).length:Int)).toNat*(Zd .u64).n) cs0))=c:=⟨_,rfl⟩;rw [aH] at aG;obtain ⟨rfl,co⟩:=aG;refine rfa O F 2 rfl rfl S (Zfa S rfl rfl Z6 (Zn V).1 (ltI k (Zn V).2.2.1)) fun f S=>rfa O F 3 rfl rfl S (ZYa S rfl Z5a (ZKh S (j:=0) rfl G (Z0d d k) aH (ltN k (Zn V).2.2.2) 0 [.int .u64 aF] rfl zl)) fun f S=>rfa O F 4 rfl rfl S (ZD S rfl) fun f S=>rfa O F 5 rfl rfl S (ZD S rfl) fun f S=>rfa O F 6 rfl rfl S (ZA S rfl rfl (Zvb a6)) fun f S=>?_;obtain ⟨_,r,s,cp,rfl,a8,a9⟩:=ZWb g (Zn aj).2.1
 obtain ⟨rfl,cq⟩:=a9;refine rfa O F 7 rfl rfl S (Zfa S rfl rfl Z6 (Zn aj).1 (ltI (ZWa g) (Zn aj).2.2.1)) fun f S=>rfa O F 8 rfl rfl S (ZYa S rfl Z5a (S.view a8)) fun f S=>rfa O F 9 rfl rfl S (ZA S rfl rfl Z3d) fun f S=>fin1 O F (Zp (a5 _ _ ?_));obtain ⟨ba,bb,bc⟩:=Zea H;refine ZQc (fun f w=>∃ W I,W=ba∧Zb.le m I∧St 90 ⟨x,[a]⟩ m [(0,.slice (some ⟨a,off0,none⟩) (e) h),(1,.slice (some ⟨r,s,none⟩) o p),(6,.int .u64 W)] [Loc.box a A (pre0++cs0++post0)] I f w∧inR .u64 W) (fun _ aI=>?_) ?_
 ·have H:=bb;rcases Z8a (decide (aF<a7)) with J | J
  ·have H:=Zbb H J;refine Zgb S rfl J (sr (mw S rfl fun f S=>oe (Zz fun _ bd=>bO H fun X Y H=>bO H fun be bf H=>bO H fun Z aa H=>bO H fun cr bg H=>bO H fun ak al H=>bO H fun aJ bh H=>ZUg (fl:=#[true,true,true,true,true,true,true,true,true,true,true,true,true,true,false,true,true,true,false,false]) ZRm (by kernel_rfl) S ?_)));intro ops O F w S;refine rfa O F 0 rfl rfl S (ZD S rfl) fun f S=>rfa O F 1 rfl rfl S (ZD S rfl) fun f S=>?_;have aK:=Zxa d (Zn Y).2.1;obtain ⟨ct,aL⟩:∃ c,(List.take (Zd .u64).n (List.drop (((((Zc 18446744073709551616 v)).length:Int)).toNat*(Zd .u64).n) cs0))=c:=⟨_,rfl⟩;rw [aL] at aK;obtain ⟨rfl,bi⟩:=aK;refine rfa O F 2 rfl rfl S (Zfa S rfl rfl Z6 (Zn Y).1 (ltI k (Zn Y).2.2.1)) fun f S=>rfa O F 3 rfl rfl S (ZYa S rfl Z5a (ZKh S (j:=0) rfl G (Z0d d k) aL (ltN k (Zn Y).2.2.2) 0 [.int .u64 X] rfl zl)) fun f S=>rfa O F 4 rfl rfl S (ZD S rfl) fun f S=>rfa O F 5 rfl rfl S (ZD S rfl) fun f S=>rfa O F 6 rfl rfl S (ZA S rfl rfl (Zvb bf)) fun f S=>?_;have aM:=Zxa d (Zn aa).2.1;obtain ⟨cu,aN⟩:∃ c,(List.take (Zd .u64).n (List.drop ((be).toNat*(Zd .u64).n) cs0))=c:=⟨_,rfl⟩;rw [aN] at aM;obtain ⟨rfl,bj⟩:=aM;refine rfa O F 7 rfl rfl S (Zfa S rfl rfl Z6 (Zn aa).1 (ltI k (Zn aa).2.2.1)) fun f S=>rfa O F 8 rfl rfl S (ZYa S rfl Z5a (ZKh S (j:=0) rfl G (Z0d d k) aN (ltN k (Zn aa).2.2.2) 0 [.int .u64 Z] rfl zl)) fun f S=>rfa O F 9 rfl rfl S (ZD S rfl) fun f S=>rfa O F 10 rfl rfl S (ZD S rfl) fun f S=>rfa O F 11 rfl rfl S (ZA S rfl rfl (Zvb bg)) fun f S=>?_
   obtain ⟨cv,am,bk⟩:=Zsl g (Zn al).2.1;obtain ⟨rfl,bm⟩:=bk;refine rfa O F 12 rfl rfl S (Zfa S rfl rfl Z6 (Zn al).1 (ltI (ZWa g) (Zn al).2.2.1)) fun f S=>rfa O F 13 rfl rfl S (ZYa S rfl Z5a (S.view am)) fun f S=>go1 O F 14 (nxc [3,8,13,2,7,12,0,1,4,6,9,11,5,10] [] O rfl S rfl (Zka S [.int .u64 X,.int .u64 Z,.int .u64 ak] k_en150 rfl rfl) (div64_c S.vin (show Rep.rel (Zd .u64) _ [.int .u64 X] X from (Z0 bi)) (show Rep.rel (Zd .u64) _ [.int .u64 Z] Z from (Z0 bj)) (show Rep.rel (Zd .u64) _ [.int .u64 ak] ak from (Z0 bm)) bh) ?_);rintro _ aO f w ab ⟨cw,cx,rfl,bn,bo⟩ S;have d:=ZI ab d;have am:=Atm ab am;obtain ⟨rfl,bp⟩:=bn;obtain ⟨rfl,bq⟩:=bo;refine ⟨ZVb,rfa O F 15 rfl rfl S (ZD S rfl) fun f S=>rfa O F 16 rfl rfl S (Zta S rfl rfl) fun f S=>rfa O F 17 rfl rfl S (Zta S rfl rfl) fun f S=>go1 O F 18 (nva [0,1,2,3,4,5,6,7,8,9,10,11,12,13,14,15,16] [17] O rfl rfl S (Z8c S rfl) fun f S=>⟨(py S rfl rfl (Zta S rfl rfl) ZVb),go1 O F 19 (nva [0,1,2,3,4,5,6,7,8,9,10,11,12,13,14,15,16,17,18] [] O rfl rfl S (Z8c S rfl) fun f S=>⟨ZVb,fin1 O F ?_⟩)⟩)⟩;have S:=S.fr' (σ':=[(0,.slice (some ⟨a,off0,none⟩) (e) h),(1,.slice (some ⟨r,s,none⟩) o p),(5,.int .i64 ((((Zc 18446744073709551616 v)).length:Int))),(6,.int .u64 (aJ.1)),(7,.int .u64 (aJ.2))]) rfl
   refine Zp (bd _ _ ?_);obtain ⟨br,bs,bt⟩:=Zea H;refine ZQc (fun f w=>∃ ac an,ac=br∧Zb.le aO an∧St 90 ⟨x,[a]⟩ m [(0,.slice (some ⟨a,off0,none⟩) (e) h),(1,.slice (some ⟨r,s,none⟩) o p),(6,.int .u64 ac)] [Loc.box a A (pre0++cs0++post0)] an f w∧inR .u64 ac) (fun _ aP=>?_) ?_
   ·have H:=bs;refine wp_block ?_;obtain ⟨cy,bu,aQ⟩:=Zea H;refine ZFd bu (fun bv f w=>∃ q l ao,(q,l)=bv∧Zb.le aO ao∧St 90 ⟨x,[a]⟩ m [(0,.slice (some ⟨a,off0,none⟩) (e) h),(1,.slice (some ⟨r,s,none⟩) o p),(5,.int .i64 ((((Zc 18446744073709551616 v)).length:Int))),(6,.int .u64 q),(7,.int .u64 l)] [Loc.box a A (pre0++cs0++post0)] ao f w∧inR .u64 q∧inR .u64 l) ⟨_,_,_,rfl,(leR _),(S.fr' rfl),bp,bq⟩ ?_;rintro _ f w st ⟨q,l,ao,hq,L,S,aR,cz⟩ H cA bw aS;subst hq;have d:=ZI L d;refine wp_block (Zz fun _ bx=>bO H fun cB bz H=>bO H fun ap aq H=>bO H fun B bA H=>ZP (mv S rfl fun f S=>mv S rfl fun f S=>mv S rfl fun f S=>ov S rfl (ZA S rfl rfl (Zvb bz)) fun f S=>?_));have g:=Zoa (leT ab L) g;obtain ⟨cC,ar,bB⟩:=Zsl g (Zn aq).2.1;obtain ⟨rfl,bC⟩:=bB;refine ov S rfl (Zfa S rfl rfl Z6 (Zn aq).1 (ltI (ZWa g) (Zn aq).2.2.1)) fun f S=>ov S rfl (ZYa S rfl Z5a (S.view ar)) fun f S=>opc S rfl (Zka S [.int .u64 q,.int .u64 ap] ZCn rfl rfl) (Z4m S.vin (show Rep.rel (Zd .u64) _ [.int .u64 q] q from (Z0 aR)) (show Rep.rel (Zd .u64) _ [.int .u64 ap] ap from (Z0 bC)) bA) ?_;rintro _ bD f w E ⟨cD,cE,rfl,bE,bG⟩ S
    have d:=ZI E d;have ar:=Atm E ar;obtain ⟨rfl,cF⟩:=bE;obtain ⟨rfl,cG⟩:=bG;refine mv S rfl fun f S=>ov S rfl (Zta S rfl rfl) fun f S=>ov S rfl (Zta S rfl rfl) fun f S=>mw S rfl fun f S=>mw S rfl fun f S=>ZJ (Zp (bx _ _ (Zz fun _ bH=>Zz fun _ bI=>?_)));obtain ⟨bJ,bK,bM⟩:=Zea H;refine ZQc (fun f w=>∃ ad au,ad=bJ∧Zb.le bD au∧St 90 ⟨x,[a]⟩ m [(0,.slice (some ⟨a,off0,none⟩) (e) h),(1,.slice (some ⟨r,s,none⟩) o p),(5,.int .i64 ((((Zc 18446744073709551616 v)).length:Int))),(6,.int .u64 q),(7,.int .u64 l),(67,.bool ad)] [Loc.box a A (pre0++cs0++post0)] au f w) (fun _ av=>?_) ?_
    ·have H:=bK;refine ZP (mv S rfl fun f S=>mv S rfl fun f S=>ov S rfl (ZA S rfl rfl Z3d) fun f S=>mv S rfl fun f S=>?_);rcases Z8a (decide (B.1<l)) with M | M
     ·have H:=Zbb H M;have S:=S.bool (t:=54) rfl M;refine opn S rfl rfl rfl rfl fun f S=>opn S rfl rfl rfl rfl fun f S=>opn S rfl rfl rfl rfl fun f S=>opn S rfl rfl rfl rfl fun f S=>ZEe S (Z9d S rfl rfl rfl zl) rfl zl fun f S=>ZEe S (Z9d S rfl rfl rfl zl) rfl zl fun f S=>ZEe S (Z9d S rfl rfl rfl zl) rfl zl fun f S=>ZEe S (Z9d S rfl rfl rfl zl) rfl zl fun f S=>ZEe S (Z9d S rfl rfl rfl zl) rfl zl fun f S=>ZEe S (Z9d S rfl rfl rfl zl) rfl zl fun f S=>ZEe S (Z9d S rfl rfl rfl zl) rfl zl fun f S=>opn S rfl rfl rfl rfl fun f S=>ov S rfl (Zoe S (b:=true) rfl rfl) fun f S=>ZJ ?_;have S:=S.fr' (σ':=[(0,.slice (some ⟨a,off0,none⟩) (e) h),(1,.slice (some ⟨r,s,none⟩) o p),(5,.int .i64 ((((Zc 18446744073709551616 v)).length:Int))),(6,.int .u64 q),(7,.int .u64 l),(55,undef),(56,undef),(57,undef),(58,undef),(59,undef),(60,undef),(61,undef),(62,undef),(63,undef),(64,undef),(65,undef),(66,undef),(67,.bool true)]) rfl;obtain rfl:=ZE H;refine Zp (av _ _ ⟨_,_,rfl,(leR _),(S.fr' rfl)⟩)
     have H:=Zib H M;have S:=S.bool (t:=54) rfl M;refine opy S rfl rfl rfl rfl (ZD S rfl) fun f S=>opy S rfl rfl rfl rfl (ZD S rfl) fun f S=>opy S rfl rfl rfl rfl (ZA S rfl rfl Z3f) fun f S=>opy S rfl rfl rfl rfl (ZD S rfl) fun f S=>?_;rcases Z8a (B.1==l) with C | C
     ·have H:=Zbb H C;have S:=S.bool (t:=57) rfl C;have S:=S.bool (t:=58) rfl C;refine bO H fun ax bP H=>bO H fun N ae H=>opy S rfl rfl rfl rfl (ZD S rfl) fun f S=>opy S rfl rfl rfl rfl (ZD S rfl) fun f S=>opy S rfl rfl rfl rfl (ZD S rfl) fun f S=>opy S rfl rfl rfl rfl (ZA S rfl rfl (Zvb bP)) fun f S=>?_;have aT:=Zxa d (Zn ae).2.1;obtain ⟨cH,aU⟩:∃ c,(List.take (Zd .u64).n (List.drop ((ax).toNat*(Zd .u64).n) cs0))=c:=⟨_,rfl⟩;rw [aU] at aT;obtain ⟨rfl,cI⟩:=aT;refine opy S rfl rfl rfl rfl (Zfa S rfl rfl Z6 (Zn ae).1 (ltI k (Zn ae).2.2.1)) fun f S=>opy S rfl rfl rfl rfl (ZYa S rfl Z5a (ZKh S (j:=0) rfl G (Z0d d k) aU (ltN k (Zn ae).2.2.2) 0 [.int .u64 N] rfl zl)) fun f S=>opy S rfl rfl rfl rfl (ZA S rfl rfl ZRr) fun f S=>opy S rfl rfl rfl rfl (Zoe S (b:=true) rfl rfl) fun f S=>ov S rfl (Zoe S (b:=false) rfl rfl) fun f S=>ZJ ?_;have S:=S.fr' (σ':=[(0,.slice (some ⟨a,off0,none⟩) (e) h),(1,.slice (some ⟨r,s,none⟩) o p),(5,.int .i64 ((((Zc 18446744073709551616 v)).length:Int))),(6,.int .u64 q),(7,.int .u64 l),(55,.int .u64 (B.1)),(56,.int .u64 l),(57,.bool true),(58,.bool true),(59,.int .u64 (B.2)),(60,.slice (some ⟨a,off0,none⟩) (e) h),(61,.int .i64 ((((Zc 18446744073709551616 v)).length:Int))),(62,.int .i64 ax),(63,.pointer (some ⟨a,off0+(ax).toNat*1,none⟩)),(64,.int .u64 N),(65,.bool (decide (B.2≤N))),(66,.bool (decide (B.2≤N))),(67,.bool (decide (B.2≤N)))]) rfl
      obtain rfl:=ZE H;refine Zp (av _ _ ⟨_,_,rfl,(leR _),(S.fr' rfl)⟩)
     have H:=Zib H C;have S:=S.bool (t:=57) rfl C;have S:=S.bool (t:=58) rfl C;refine opn S rfl rfl rfl rfl fun f S=>opn S rfl rfl rfl rfl fun f S=>opn S rfl rfl rfl rfl fun f S=>opn S rfl rfl rfl rfl fun f S=>opn S rfl rfl rfl rfl fun f S=>opn S rfl rfl rfl rfl fun f S=>opn S rfl rfl rfl rfl fun f S=>opy S rfl rfl rfl rfl (Zoe S (b:=false) rfl rfl) fun f S=>ov S rfl (Zoe S (b:=false) rfl rfl) fun f S=>ZJ ?_;have S:=S.fr' (σ':=[(0,.slice (some ⟨a,off0,none⟩) (e) h),(1,.slice (some ⟨r,s,none⟩) o p),(5,.int .i64 ((((Zc 18446744073709551616 v)).length:Int))),(6,.int .u64 q),(7,.int .u64 l),(55,.int .u64 (B.1)),(56,.int .u64 l),(57,.bool false),(58,.bool false),(59,undef),(60,undef),(61,undef),(62,undef),(63,undef),(64,undef),(65,undef),(66,.bool false),(67,.bool false)]) rfl;obtain rfl:=ZE H;refine Zp (av _ _ ⟨_,_,rfl,(leR _),(S.fr' rfl)⟩)
    rintro f w ⟨ad,au,hq,P,S⟩;subst hq;have H:=bM;have d:=ZI P d;refine Zp (bI _ _ ?_);rcases Z8a (ad) with Q | Q
    ·have H:=Zbb H Q;refine Zgb S rfl Q (wp_exit (ZRa (ZFr rfl ?_)));obtain rfl:=ZE H;have hq:=aS _ rfl;subst hq;have H:=aQ;refine ZRa (Zrd ?_);obtain rfl:=ZE H;refine Zp (aP _ _ ⟨_,_,rfl,(leT (leT (leT (leR _) L) E) P),(S.fr' rfl),aR⟩)
    have H:=Zib H Q;refine Zwa S rfl Q (wp_skip (Zp (bH _ _ (sr (mv S rfl fun f S=>ov S rfl (ZA S rfl rfl Z2m) fun f S=>mw S rfl fun f S=>oe (sr (mw S rfl fun f S=>oe (Zz fun _ bQ=>bO H fun cJ bR H=>bO H fun bS ay H=>?_))))))));refine bO H fun bT aV H=>ZP (mv S rfl fun f S=>mv S rfl fun f S=>mv S rfl fun f S=>ov S rfl (ZA S rfl rfl (Zvb bR)) fun f S=>?_);have g:=Zoa (leT E P) g;obtain ⟨cK,bU,bV⟩:=Zsl g (Zn ay).2.1;obtain ⟨rfl,cL⟩:=bV;refine ov S rfl (Zfa S rfl rfl Z6 (Zn ay).1 (ltI (ZWa g) (Zn ay).2.2.1)) fun f S=>ov S rfl (ZYa S rfl Z5a (S.view bU)) fun f S=>ov S rfl (Ztk S [.int .u64 l,.int .u64 bS,.int .u64 0] (ZFl Zts aV) rfl rfl) fun f S=>mv S rfl fun f S=>ov S rfl (Zta S rfl rfl) fun f S=>ov S rfl (Zta S rfl rfl) fun f S=>mw S rfl fun f S=>mw S rfl fun f S=>ZJ (Zp (bQ _ _ (sr (mv S rfl fun f S=>ov S rfl (ZA S rfl rfl Zvf) fun f S=>oe ?_))));rcases Z8a (decide ((0:Int)<bT.2)) with R | R
    ·have H:=Zbb H R;refine Zgb S rfl R (wp_exit (ZFr rfl ?_));obtain rfl:=ZE H;have hq:=aS _ rfl;subst hq;have H:=aQ;refine ZRa (Zrd ?_);obtain rfl:=ZE H;refine Zp (aP _ _ ⟨_,_,rfl,(leT (leT (leT (leR _) L) E) P),(S.fr' rfl),(ZAb _ _)⟩)
    have H:=Zib H R;refine Zwa S rfl R (wp_skip (Zod ?_));obtain rfl:=ZE H;refine bw _ rfl _ _ ⟨_,_,_,rfl,(leT (leT L E) P),(S.fr' rfl),(ZAb _ _),(Zfn aV)⟩
   rintro f w ⟨ac,an,hq,aW,S,bW⟩;subst hq;have H:=bt;have d:=ZI aW d;obtain rfl:=ZE H;refine Zp (aI _ _ ⟨_,_,rfl,(leT (leT (leR _) ab) aW),(S.fr' rfl),bW⟩)
  have H:=Zib H J;refine Zwa S rfl J (wp_skip ?_);obtain rfl:=ZE H;refine Zp (aI _ _ ⟨_,_,rfl,(leR _),(S.fr' rfl),(by decide)⟩)
 rintro f w ⟨W,I,hq,aX,S,bX⟩;subst hq;have H:=bc;have d:=ZI aX d;refine Zp (a4 _ _ (Zz fun _ bY=>?_));obtain ⟨bZ,b1,b2⟩:=Zea H;refine ZQc (fun f w=>∃ af T az ag,(af,T)=bZ∧Zb.le I ag∧St 90 ⟨x,[a]⟩ m [(6,.int .u64 T)] [Loc.box a A (pre0++az++post0)] ag f w∧Rep.rels (Zd .u64) ag az af∧e=af.length∧inR .u64 T) (fun _ b3=>?_) ?_
 ·have H:=b1;refine wp_block ?_;obtain ⟨cM,b4,b5⟩:=Zea H;refine ZFd b4 (fun b6 f w=>∃ ah D aA ai,(ah,D)=b6∧Zb.le I ai∧St 90 ⟨x,[a]⟩ m [(0,.slice (some ⟨a,off0,none⟩) (e) h),(1,.slice (some ⟨r,s,none⟩) o p),(6,.int .u64 D)] [Loc.box a A (pre0++aA++post0)] ai f w∧Rep.rels (Zd .u64) ai aA ah∧e=ah.length∧inR .u64 D) ⟨_,_,cs0,_,rfl,(leR _),(S.fr' rfl),d,k,bX⟩ ?_;rintro _ f w st ⟨ah,D,aA,ai,hq,aB,S,aC,b7,aY⟩ H cN b8 b9;subst hq;refine Zz fun _ ca=>Zz fun _ cb=>bO H fun cc ce H=>ZP (mv S rfl fun f S=>mv S rfl fun f S=>mv S rfl fun f S=>?_);have g:=Zoa (leT aX aB) g;refine Zso S wn rfl zl (Zka S [.slice (some ⟨a,off0,none⟩) (e) h,.slice (some ⟨r,s,none⟩) o p,.int .u64 D] k_en177 rfl rfl) (i:=0) rfl rfl (take_c S.vin (S.boxAt (j:=0) rfl).1 G (S.boxAt (j:=0) rfl).2 b7 a3 aC g (show Rep.rel (Zd .u64) _ [.int .u64 D] D from (Z0 aY)) ce) ?_;rintro _ cO f w aD ⟨⟨cP,rfl,cg⟩,ch,aE,ci,aZ,a0⟩ hSf;have aC:=ZI aD aC;have S:=hSf (Loc.box a A (pre0++aE++post0)) rfl ci ch;obtain rfl:=cg;refine ov S rfl (Ztt S rfl) fun f S=>ZJ (Zp (cb _ _ ?_));rcases Z8a (!(cc.1)) with U | U
  ·have H:=Zbb H U;refine Zgb S rfl U (wp_skip (Zp (ca _ _ (wp_block (ZP (mv S rfl fun f S=>ov S rfl (ZA S rfl rfl Z2m) fun f S=>mw S rfl fun f S=>ZJ (Zod ?_)))))));obtain rfl:=ZE H;refine b8 _ rfl _ _ ⟨_,_,aE,_,rfl,(leT aB aD),(S.fr' rfl),a0,aZ,(ZAb _ _)⟩
  have H:=Zib H U;refine Zwa S rfl U (wp_exit (ZRa ?_));obtain rfl:=ZE H;have hq:=b9 _ rfl;subst hq;have H:=b5;refine ZRa (Zrd ?_);obtain rfl:=ZE H;refine Zp (b3 _ _ ⟨_,_,aE,_,rfl,(leT (leT (leR _) aB) aD),(S.fr' rfl),a0,aZ,aY⟩)
 rintro f w ⟨af,T,az,ag,hq,cQ,S,cj,ck,cl⟩;subst hq;have H:=b2;refine Zp (bY _ _ (sr (mv S rfl fun f S=>mw S rfl fun f S=>oe (wp_ret ?_))));obtain rfl:=ZE H;refine Zzl S (ZFc rfl (ZMa S rfl)) ⟨⟨[.int .u64 T],rfl,(Z0 cl)⟩,(S.boxAt (j:=0) rfl).2,_,(S.boxAt (j:=0) rfl).1,ck,cj⟩
theorem digit_c {d:World} {b:Zb} (hv:VIn b d) {a off0 c e:Nat} {f:TypeId} {pre0 cs0 post0:List Value} {u:(List Int)} (j:d.heap[a]? = some (.cells (pre0++cs0++post0).toArray f (0,0))) (k:off0=pre0.length) (l:b a=none) (m:c=u.length) (n:c≤e∧e≤maxLen) (g:Rep.rels (Zd .u64) b cs0 u) {h:List Value} {v:Nat} (o:Rep.rel Zs b h v) {z:Int×(List Int)} (hm:Z7g u v=some z) :
  ZHc Tryz.prog 165 #[Value.slice (some ⟨a,off0,none⟩) c e,Zs.val h] d b [a] (fun y v' w'=>(∃ i,y=(Zd .u64).val i∧(Zd .u64).rel v' i z.1)∧v' a=none∧∃ cs,w'.heap[a]? = some (.cells (pre0++cs++post0).toArray f (0,0))∧c=z.2.length∧Rep.rels (Zd .u64) v' cs z.2) :=
 digit_w hv j k l m n g o (ZKw (ZMn g) hm)
end Go.Eng
set_option maxRecDepth 100000
set_option maxHeartbeats 4000000
namespace Go.Eng
open Go.Proofs Go.RowKit
noncomputable def left_q:FuncId×Con:=(164,⟨[.leaf 0,.int .i64],[.leaf 0],fun p=>Zed p.1 p.2⟩)
theorem left_r:KR left_q:=Zx (C:=cf2 [(55,0)] [Zwe]) (.n (.two (.f (.j [0,1] [] [.s 14 (.dat .bool)] .no)) (.n (.f (.n (.j [] [] [.s 5 (.own 153 (.int .u64))] (.f (.l [1,23,24] [] [.s 5 (.own 153 (.int .u64)),.s 25 (.dat (.int .i64))] 0 [] [] [.s 5 (.own 153 (.int .u64))] .no)))))))) Tryz.func164 [] (fun v vals x z ha hz=>.trans (by kernel_rfl) (ZKu hz)) ⟨ZHg,tr⟩
end Go.Eng
namespace Go.Eng
open Go.Proofs Go.RowKit
theorem ZNs {e:World} {b:Zb} (hv:VIn b e) {c:List Value} {a:Nat} (g:Rep.rel Zs b c a) {d:List Value} {n:Int} (h:Rep.rel (Zd .i64) b d n) {z:Nat} (hm:Zed a n=some z) :
  Ret Tryz.prog 164 #[Zs.val c,(Zd .i64).val d] e b (fun y v'=>∃ f,y=Zs.val f∧Zs.rel v' f z) :=
 (left_r e b [Zs.val c,(Zd .i64).val d] (a,n) z hv ⟨c,_,rfl,g,d,rfl,h⟩ hm).2
theorem lz64_c {c:World} {a:Zb} (hv:VIn a c) {b:List Value} {x:Int} (e:Rep.rel (Zd .u64) a b x) {z:Int} (hm:Zqd x=some z) :
  Ret Tryz.prog 163 #[(Zd .u64).val b] c a (fun y v'=>∃ d,y=(Zd .i64).val d∧(Zd .i64).rel v' d z) :=
 (Z1o c a [(Zd .u64).val b] (x) z hv ⟨b,rfl,e⟩ hm).2
end Go.Eng
set_option maxRecDepth 100000
set_option maxHeartbeats 4000000
namespace Go.Eng
open Go.Proofs Go.RowKit
noncomputable def right_q:FuncId×Con:=(166,⟨[.leaf 0,.int .i64],[.leaf 0],fun p=>Zuf p.1 p.2⟩)
theorem right_r:KR right_q:=Zx (C:=cf2 [(55,0)] [Zwe]) (.n (.n (.n (.f (.n (.j [] [] [.s 5 (.own 153 (.int .u64))] (.f (.l [0,1,19] [] [.s 5 (.own 153 (.int .u64)),.s 20 (.dat (.int .i64))] 0 [] [] [.s 5 (.own 153 (.int .u64))] (.f (.n (.n (.f (.f (.n (.n (.n (.j [0,1,19,20] [] [.s 5 (.own 153 (.int .u64))] .no))))))))))))))))) Tryz.func166 [] (fun v vals x z ha hz=>by obtain ⟨c0,w0,e0,p0,c1,e1,p1⟩:=ha;exact .trans (by kernel_rfl) (ZOw p1.2 hz)) ⟨ZHg,tr⟩
end Go.Eng
namespace Go.Eng
open Go.Proofs Go.RowKit
theorem right_c {e:World} {b:Zb} (hv:VIn b e) {c:List Value} {a:Nat} (g:Rep.rel Zs b c a) {d:List Value} {n:Int} (h:Rep.rel (Zd .i64) b d n) {z:Nat} (hm:Zuf a n=some z) :
  Ret Tryz.prog 166 #[Zs.val c,(Zd .i64).val d] e b (fun y v'=>∃ f,y=Zs.val f∧Zs.rel v' f z) :=
 (right_r e b [Zs.val c,(Zd .i64).val d] (a,n) z hv ⟨c,_,rfl,g,d,rfl,h⟩ hm).2
theorem word_c {c:World} {a:Zb} (hv:VIn a c) {b:List Value} {n:Int} (e:Rep.rel (Zd .u64) a b n) {z:Nat} (hm:ZXb n=some z) :
  Ret Tryz.prog 128 #[(Zd .u64).val b] c a (fun y v'=>∃ d,y=Zs.val d∧Zs.rel v' d z) :=
 (Z3q c a [(Zd .u64).val b] (n) z hv ⟨b,rfl,e⟩ hm).2
theorem ZJv {w0:World} {F:Zb} (hv:VIn F w0) {c0:List Value} {a:Nat} (m:Rep.rel Zs F c0 a) {c1:List Value} {b:Nat} (g:Rep.rel Zs F c1 b) {z:Nat×Nat} (H:Zmi a b=some z):Ret Tryz.prog 131 #[Zs.val c0,Zs.val c1] w0 F (fun y v'=>∃ r0 r1,y = .tuple #[Zs.val r0,Zs.val r1]∧Zs.rel v' r0 z.1∧Zs.rel v' r1 z.2):=by
 obtain ⟨R,T,U,rfl⟩:=Zza m;obtain ⟨q4,n5,k6,rfl⟩:=Zza g;refine ZEi (K:=84) (args:=[.slice R T U,.slice q4 n5 k6]) hv Tryz.func131 rfl rfl zl fun f S=>?_;unfold Zmi at H;refine sr (mw S rfl fun f S=>mw S rfl fun f S=>oe (Zz fun _ bc=>wp_block (Zz fun _ bd=>bO H fun be bf H=>ZP (mv S rfl fun f S=>mv S rfl fun f S=>opc S rfl (Zka S [.slice R T U,.slice q4 n5 k6] Zdq rfl rfl) (cmp_c S.vin m g bf) ?_))));rintro _ cX f w aj ⟨cY,rfl,bg⟩ S;obtain ⟨rfl,cZ⟩:=bg;refine ov S rfl (ZA S rfl rfl Z3d) fun f S=>mw S rfl fun f S=>ZJ (Zp (bd _ _ ?_));rcases Z8a (decide (be<(0:Int))) with V | V
 ·have H:=Zbb H V;refine Zgb S rfl V (sr (mv S rfl fun f S=>mw S rfl fun f S=>mw S rfl fun f S=>oe (wp_ret (ZZr (Zah ?_)))));obtain rfl:=ZE H;have m:=Zoa aj m;refine Zif S (Zgk rfl (ZMa S rfl) (ZMa S rfl)) ⟨[.slice none 0 0],[.slice R T U],rfl,(Zri _),m⟩
 have H:=Zib H V;refine Zwa S rfl V (sr (mv S rfl fun f S=>?_));have g:=Zoa aj g;refine ov S rfl (ZKb S (ZWa g) rfl rfl Z6) fun f S=>ov S rfl (ZA S rfl rfl Z3f) fun f S=>mw S rfl fun f S=>oe ?_;rcases Z8a (((((Zc 18446744073709551616 b)).length:Int))==(1:Int)) with W | W
 ·have H:=Zbb H W;refine Zgb S rfl W (Zz fun _ bh=>bO H fun au av H=>bO H fun ax bi H=>ZP (mv S rfl fun f S=>mv S rfl fun f S=>?_));obtain ⟨_,c2,c3,c4,rfl,ay,bj⟩:=ZWb g (Zn av).2.1;obtain ⟨rfl,bk⟩:=bj;refine ov S rfl (Zfa S rfl rfl Z6 (Zn av).1 (ltI (ZWa g) (Zn av).2.2.1)) fun f S=>ov S rfl (ZYa S rfl Z5a (S.view ay)) fun f S=>?_;have m:=Zoa aj m;refine opc S rfl (Zka S [.slice R T U,.int .u64 au] ZQp rfl rfl) (ZBp S.vin m (show Rep.rel (Zd .u64) _ [.int .u64 au] au from (Z0 bk)) bi) ?_;rintro _ c5 f w bm ⟨c6,c7,rfl,ak,bn⟩ S;have ay:=Atm bm ay;obtain ⟨aT,aU,aV,rfl⟩:=Zza ak;obtain ⟨rfl,bo⟩:=bn;refine mv S rfl fun f S=>ov S rfl (Zta S rfl rfl) fun f S=>ov S rfl (Zta S rfl rfl) fun f S=>mw S rfl fun f S=>mw S rfl fun f S=>ZJ (Zp (bh _ _ (Zz fun _ bp=>bO H fun c8 bq H=>ZP (mv S rfl fun f S=>mv S rfl fun f S=>opc S rfl (Zka S [.int .u64 (ax.2)] k_en128 rfl rfl) (word_c S.vin (show Rep.rel (Zd .u64) _ [.int .u64 (ax.2)] ax.2 from (Z0 bo)) bq) ?_))));rintro _ c9 f w br ⟨da,rfl,aW⟩ S;obtain ⟨aX,aY,aZ,rfl⟩:=Zza aW;refine mw S rfl fun f S=>mw S rfl fun f S=>ZJ ?_;have S:=S.fr' (σ':=[(4,.slice aT aU aV),(5,.slice aX aY aZ)]) rfl;refine Zp (bp _ _ (wp_ret (ZZr (Zah ?_))))
  obtain rfl:=ZE H;have ak:=Zoa br ak;refine Zif S (Zgk rfl (ZMa S rfl) (ZMa S rfl)) ⟨[.slice aT aU aV],[.slice aX aY aZ],rfl,ak,aW⟩
 have H:=Zib H W;refine Zwa S rfl W (wp_skip (Zod (Zp (bc _ _ (Zz fun _ bs=>bO H fun db bt H=>bO H fun az aA H=>bO H fun k bu H=>ZP (mv S rfl fun f S=>mv S rfl fun f S=>ov S rfl (ZKb S (ZWa g) rfl rfl Z6) fun f S=>ov S rfl (ZA S rfl rfl (Zvb bt)) fun f S=>?_))))));obtain ⟨_,bv,bw,dc,rfl,aB,bx⟩:=ZWb g (Zn aA).2.1;obtain ⟨rfl,bz⟩:=bx;refine ov S rfl (Zfa S rfl rfl Z6 (Zn aA).1 (ltI (ZWa g) (Zn aA).2.2.1)) fun f S=>ov S rfl (ZYa S rfl Z5a (S.view aB)) fun f S=>opc S rfl (Zka S [.int .u64 az] k_en163 rfl rfl) (lz64_c S.vin (show Rep.rel (Zd .u64) _ [.int .u64 az] az from (Z0 bz)) bu) ?_;rintro _ dd f w aC ⟨de,rfl,bA⟩ S;have aB:=Atm aC aB;obtain ⟨rfl,aD⟩:=bA;refine mw S rfl fun f S=>ZJ (Zp (bs _ _ (Zz fun _ bB=>bO H fun bC bD H=>ZP (mv S rfl fun f S=>mv S rfl fun f S=>?_))));have g:=Zoa aC g;refine opc S rfl (Zka S [.slice (some ⟨bv,bw,none⟩) n5 k6,.int .i64 k] Z0s rfl rfl) (ZNs S.vin g (show Rep.rel (Zd .i64) _ [.int .i64 k] k from (Z0 aD)) bD) ?_;rintro _ bE f w bG ⟨df,rfl,v⟩ S;obtain ⟨aE,aF,aG,rfl⟩:=Zza v;refine mw S rfl fun f S=>ZJ (Zp (bB _ _ (Zz fun _ bH=>bO H fun X bI H=>bO H fun dg bJ H=>bO H fun dh bK H=>ZP ?_)))
 obtain ⟨di,w,bM,S⟩:=Zeg (P:=Tryz.prog) (t:=55) (e:=153) S (n:=0) (cs:=[]) (vals:=[]) (sz:=1) rfl (by decide) (fun _=>by kernel_rfl);have aH:Rep.rels (Zd .u64) bE [] []:=Z2c;refine Zkc wn rfl zl (bM rfl) S fun f S=>mv S rfl fun f S=>mv S rfl fun f S=>?_;have m:=Zoa (leT (leT aj aC) bG) m;refine opc S rfl (Zka S [.slice R T U,.int .i64 k] Z0s rfl rfl) (ZNs S.vin m (show Rep.rel (Zd .i64) _ [.int .i64 k] k from (Z0 aD)) bI) ?_;rintro _ al f w a0 ⟨dj,rfl,aI⟩ S;have aH:=ZI a0 aH;obtain ⟨dk,dl,dm,rfl⟩:=Zza aI;have aJ:=S;obtain ⟨dn,dp,a1,w,bP,S,bQ⟩:=Znf (ty:=55) (A:=(Zd .u64)) ZWh S (i:=0) (n':=(([]:(List Int))++((Zc 18446744073709551616 X))).length) rfl aI (appN rfl (ZWa aI)) (ZWd bJ) (by decide);have bR:=Zxb aH bQ;refine Zkc wn rfl zl (ZVd aJ rfl rfl bP) S fun f S=>?_;obtain ⟨dq,w,bS,S⟩:=Zeg S (n:=1) (cs:=[.int .u64 0]) (vals:=[(0,.int .u64 0)]) (sz:=1) rfl (by decide) (Zwp ZWh (x:=.int .u64 0) (cs:=[.int .u64 0]) rfl rfl (by decide));have aK:Rep.rels (Zd .u64) al [.int .u64 0] [(0:Int)]:=(Zzo (Z0 (by decide)) Z2c);refine Zkc wn rfl zl (bS rfl) S fun f S=>?_;have aJ:=S;obtain ⟨aL,aM,w,bT,S⟩:=ZGk (ty:=55) ZWh S (i:=1) (n':=((([]:(List Int))++((Zc 18446744073709551616 X)))++[(0:Int)]).length) rfl (Z0d aK rfl) (Z4g S (j:=0) rfl) (Zmg aK) (appN rfl rfl) (ZWd bK) (by decide)
 have bU:=Zxb bR aK;refine Zkc wn rfl zl (ZVd aJ rfl rfl bT) S fun f S=>mw S rfl fun f S=>ZJ ?_;have S:=S.fr' (σ':=[(8,.int .i64 k),(9,.slice aE aF aG),(10,.slice (mkA aL) (((([]:(List Int))++((Zc 18446744073709551616 X)))++[(0:Int)]).length) aM)]) rfl;refine Zp (bH _ _ (sr (mv S rfl fun f S=>?_)));have v:=Zoa a0 v;refine ov S rfl (ZKb S (ZWa v) rfl rfl Z6) fun f S=>mw S rfl fun f S=>oe (Zz fun _ bV=>bO H fun q bW H=>bO H fun dr am H=>ZP (mv S rfl fun f S=>ov S rfl (ZKb S rfl rfl rfl Z6) fun f S=>mv S rfl fun f S=>ov S rfl (ZA S rfl rfl (Zvb bW)) fun f S=>?_));obtain ⟨aN,a2⟩:∃ c:List Value,c=(List.replicate (q).toNat [.int .u64 0]).flatten:=⟨_,rfl⟩;obtain ⟨a3,w,bX,S⟩:=ZCp ZWh S (l:=q) (c:=q) (Zmd am).1 (Zmd am).2.1 (Zmd am).2.2.1 (Zmd am).2.2.2 a2;have bY:Rep.rels (Zd .u64) al aN (List.replicate (q).toNat (0:Int)):=by rw [a2];exact Z6g (show Rep.rel (Zd .u64) _ [.int .u64 0] _ from (Z0 (by decide))) _
 refine Zkc wn rfl zl (bX rfl rfl) S fun f S=>mw S rfl fun f S=>ZJ (Zp (bV _ _ (Zz fun _ bZ=>Zz fun _ b0=>bO H fun ds a4 H=>ZP (mv S rfl fun f S=>ov S rfl (ZKb S (repN (x:=(0:Int))) rfl rfl Z6) fun f S=>ov S rfl (ZA S rfl rfl (Zvb a4)) fun f S=>mw S rfl fun f S=>ZJ (Zp (b0 _ _ ?_))))));obtain ⟨b1,b2,b3⟩:=Zea H;refine ZQc (fun f w=>∃ G I J B L an Y M Z aO aa,(G,I)=b1∧Zb.le al aa∧St 84 w0 F [(8,.int .i64 k),(10,.slice (mkA J) B L),(12,.slice (mkA Y) M Z)] [Loc.own J 153 1 B L an,Loc.own Y 153 1 M Z aO] aa f w∧Rep.rels (Zd .u64) aa an G∧B=G.length∧Rep.rels (Zd .u64) aa aO I∧M=I.length) (fun _ b4=>?_) ?_
 ·have H:=b2;refine wp_block ?_;obtain ⟨dt,b5,b6⟩:=Zea H;have S:=S.reorder (ℓ':=[Loc.own aL 153 1 (((([]:(List Int))++((Zc 18446744073709551616 X)))++[(0:Int)]).length) aM ((([]++a1)++[.int .u64 0])),Loc.own (some a3) 153 1 ((q).toNat) (q).toNat aN]) [2,0] rfl (by decide);refine ZFd b5 (fun b7 f w=>∃ ao N d ap C D s aq E ab o ac,(ao,N,d)=b7∧Zb.le al ac∧St 84 w0 F [(8,.int .i64 k),(9,.slice aE aF aG),(10,.slice (mkA ap) C D),(11,.int .i64 ((((Zc 18446744073709551616 bC)).length:Int))),(12,.slice (mkA aq) E ab),(13,.int .i64 d)] [Loc.own ap 153 1 C D s,Loc.own aq 153 1 E ab o] ac f w∧Rep.rels (Zd .u64) ac s ao∧C=ao.length∧Rep.rels (Zd .u64) ac o N∧E=N.length∧inR .i64 d) ⟨_,_,_,aL,((([]:(List Int))++((Zc 18446744073709551616 X)))++[(0:Int)]).length,aM,(([]++a1)++[.int .u64 0]),some a3,(q).toNat,(q).toNat,aN,_,rfl,(leR _),(S.fr' rfl),bU,rfl,bY,(repN (x:=(0:Int))),(Zqb a4).2⟩ ?_;rintro _ f w st ⟨ao,N,d,ap,C,D,s,aq,E,ab,o,ac,hq,aP,S,ad,ae,af,ag,du⟩ H dv b8 b9
  subst hq;refine Zz fun _ ca=>sr (mv S rfl fun f S=>ov S rfl (ZA S rfl rfl Z1n) fun f S=>oe ?_);rcases Z8a (decide ((0:Int)≤d)) with ah | ah
  ·have H:=Zbb H ah;refine Zgb S rfl ah (wp_skip (Zp (ca _ _ (Zz fun _ cb=>wp_block (bO H fun dw cc H=>bO H fun O ce H=>bO H fun dx h H=>bO H fun u cg H=>bO H fun dy Q H=>ZP (mv S rfl fun f S=>mv S rfl fun f S=>mv S rfl fun f S=>?_))))));refine mv S rfl fun f S=>mv S rfl fun f S=>mv S rfl fun f S=>ov S rfl (ZA S rfl rfl (Zsf cc)) fun f S=>ov S rfl (ZA S rfl rfl (Zsf ce)) fun f S=>?_;obtain ⟨aQ,rfl⟩:=ZRc S (j:=0) rfl (by have:=ZSb h;have:=ae;omega);refine ov S rfl (Z7v S (j:=0) rfl Z6 (ZSb h).1 (ZSb h).2.1 (by have:=(ZSb h).2.2.1;have:=ae;omega) rfl rfl rfl) fun f S=>mv S rfl fun f S=>?_;obtain ⟨pre399,post400,ch,ci,cj,ck,cl,cm⟩:=Zcu S (i:=0) (lo:=(d).toNat) (hi:=(O).toNat) rfl (ZSb h).2.2.2.2.2.1 (by have:=(ZSb h).2.2.2.2.2.2;have:=ae;omega);have v:=Zoa aP v;refine Zso S wn rfl zl (Zka S [.slice (some ⟨aQ,(d).toNat*1,none⟩) ((O-d).toNat) (D-(d).toNat),.slice aE aF aG] k_en165 rfl rfl) (i:=0) rfl rfl (digit_c S.vin ch cj ci (ZSb h).2.2.2.2.1 ⟨ZYv (ZSb h).1 (ZSb h).2.1 ck,cl⟩ (ZRw ad rfl (ZSb h).2.2.2.1) v cg) ?_;rintro _ a5 f w aR ⟨⟨dz,rfl,cn⟩,co,aS,cp,cq,a6⟩ hSf;have ad:=ZI aR ad
   have af:=ZI aR af;have a7:((O).toNat-(d).toNat)=u.2.length:=by have:=cq;have:=ZSb h;omega
   have S:=hSf (Loc.own (some aQ) 153 1 C D (List.take ((d).toNat*1) s++aS++List.drop ((O).toNat*1) s)) rfl (cm _ aS (Z0d a6 a7) cp) co;have cr:=Zqu (p:=(d).toNat) (r:=(O).toNat) (sz:=1) ad a6 rfl;have ct:=Zqx ae (ZSb h).2.2.2.2.2.1 (ZSb h).2.2.2.2.2.2 a7;obtain ⟨rfl,cu⟩:=cn;obtain ⟨cv,rfl⟩:=ZRc S (j:=1) rfl (posN ag (Zn Q).2.2.2);have a8:=Zxa af (Zn Q).2.1;obtain ⟨dA,cw⟩:∃ c,(List.take (Zd .u64).n (List.drop ((d).toNat*(Zd .u64).n) o))=c:=⟨_,rfl⟩;rw [cw] at a8;obtain ⟨rfl,dB⟩:=a8;refine ov S rfl (Zfa S rfl rfl Z6 (Zn Q).1 (ltI ag (Zn Q).2.2.1)) fun f S=>?_;obtain ⟨w,cx,S⟩:=Zjd S Z5a (off:=0+(d).toNat*1) (z:=.int .u64 (u.1)) (cs:=[.int .u64 (u.1)]) (Zxc rfl) rfl (i:=1) rfl (ZVh S (j:=1) rfl (ltN ag (Zn Q).2.2.2)) (by first | rfl | simp [plain]);have cy:Rep.rels (Zd .u64) a5 (List.take (0+(d).toNat*1) o++[Value.int IntKind.u64 (u.1)]++List.drop (0+(d).toNat*1+1) o) (N.set (d).toNat u.1):=ZIg af (Zn Q).2.2.2 (show Rep.rel (Zd .u64) a5 [.int .u64 (u.1)] _ from (Z0 cu)) rfl rfl;have cz:E=(N.set (d).toNat u.1).length:=setN ag;refine ZMi wn rfl (cx rfl rfl) (ZJ (Zod (Zp (cb _ _ (bO H fun dC a9 H=>ZP (mv S rfl fun f S=>ov S rfl (ZA S rfl rfl (Zvb a9)) fun f S=>mw S rfl fun f S=>ZJ ?_))))))
   obtain rfl:=ZE H;refine b8 _ rfl _ _ ⟨_,_,_,some aQ,C,D,(List.take ((d).toNat*1) s++aS++List.drop ((O).toNat*1) s),some cv,E,ab,(List.take (0+(d).toNat*1) o++[Value.int IntKind.u64 (u.1)]++List.drop (0+(d).toNat*1+1) o),_,rfl,(leT aP aR),(S.fr' rfl),cr,ct,cy,cz,(Zqb a9).2⟩
  have H:=Zib H ah;refine Zwa S rfl ah (wp_exit (ZRa ?_));obtain rfl:=ZE H;have hq:=b9 _ rfl;subst hq;have H:=b6;refine ZRa (Zrd ?_);obtain rfl:=ZE H;refine Zp (b4 _ _ ⟨_,_,ap,C,D,s,aq,E,ab,o,_,rfl,(leT (leR _) aP),(S.fr' rfl),ad,ae,af,ag⟩)
 rintro f w ⟨G,I,J,B,L,an,Y,M,Z,aO,aa,hq,dD,S,ai,cA,cB,cC⟩;subst hq;have H:=b3;refine Zp (bZ _ _ (Zz fun _ cD=>bO H fun dE cE H=>bO H fun dF cF H=>bO H fun dG cG H=>ZP (mv S rfl fun f S=>?_)));obtain ⟨dH,cH,S,cI⟩:=S.pubSlice (i:=1) (A:=(Zd .u64)) (l:=I) (ℓ':=[Loc.own J 153 1 B L an]) rfl rfl cC cB rfl;have ai:=ZI cH ai;refine opc S rfl (Zka S [.slice (mkA Y) M Z] Zxj rfl rfl) (ZTi S.vin (show Rep.rel (Zl (Zd .u64)) _ [.slice (mkA Y) M Z] I from cI) cE) ?_;rintro _ dI f w cJ ⟨dJ,rfl,ar⟩ S;have ai:=ZI cJ ai;obtain ⟨cK,cL,cM,rfl⟩:=Zza ar;refine mv S rfl fun f S=>?_;obtain ⟨dK,cN,S,cO⟩:=S.pubSlice (i:=0) (A:=(Zd .u64)) (l:=G) (ℓ':=[]) rfl rfl cA ai rfl;refine opc S rfl (Zka S [.slice (mkA J) B L] Zxj rfl rfl) (ZTi S.vin (show Rep.rel (Zl (Zd .u64)) _ [.slice (mkA J) B L] G from cO) cF) ?_;rintro _ dL f w cP ⟨dM,rfl,ba⟩ S;obtain ⟨cQ,cR,cS,rfl⟩:=Zza ba;refine mv S rfl fun f S=>opc S rfl (Zka S [.slice cQ cR cS,.int .i64 k] k_en166 rfl rfl) (right_c S.vin ba (show Rep.rel (Zd .i64) _ [.int .i64 k] k from (Z0 aD)) cG) ?_;rintro _ dN f w cT ⟨dO,rfl,bb⟩ S;obtain ⟨cU,cV,cW,rfl⟩:=Zza bb
 refine mw S rfl fun f S=>mw S rfl fun f S=>ZJ (Zp (cD _ _ (wp_ret ?_)));obtain rfl:=ZE H;have ar:=Zoa (leT (leT cN cP) cT) ar;refine Zif S (Zgk rfl (ZMa S rfl) (ZMa S rfl)) ⟨[.slice cK cL cM],[.slice cU cV cW],rfl,ar,bb⟩
theorem Zcw {d:World} {c:Zb} (hv:VIn c d) {e:List Value} {a:Nat} (i:Rep.rel Zs c e a) {f:List Value} {b:Nat} (j:Rep.rel Zs c f b) {z:Nat×Nat} (hm:Zcd a b=some z) :
  Ret Tryz.prog 131 #[Zs.val e,Zs.val f] d c (fun y v'=>∃ g h,y=Value.tuple #[Zs.val g,Zs.val h]∧Zs.rel v' g z.1∧Zs.rel v' h z.2) :=
 ZJv hv i j (ZGt hm)
end Go.Eng
set_option maxRecDepth 100000
set_option maxHeartbeats 4000000
namespace Go.Eng
open Go.Proofs Go.RowKit
noncomputable def ZUi:FuncId×Con:=(131,⟨[.leaf 0,.leaf 0],[.leaf 0,.leaf 0],fun p=>Zcd p.1 p.2⟩)
theorem ZSq:Z1d Tryz.prog ZUi.1 ZUi.2:=fun w v vals x z hv ha hz=>by
 obtain ⟨c0,w0,e0,p0,c1,e1,p1⟩:=ha;subst e0;subst e1
 exact .inl ⟨fun _ _=>by kernel_rfl,Ret.mono (Zcw hv p0 p1 hz) fun y v' _ ⟨r0,r1,e,h0,h1⟩=>⟨_,e,r0,_,rfl,h0,r1,rfl,h1⟩⟩
end Go.Eng
set_option maxRecDepth 100000
set_option maxHeartbeats 4000000
namespace Go.Eng
open Go.Proofs Go.RowKit
noncomputable def Z4s:FuncId×Con:=(161,⟨[.leaf 0,.leaf 0],[.int .u64],fun p=>ZYg p.1 p.2⟩)
theorem small_k:KQ Z4s:=Zh (Zx (C:=cf2 [(55,0)] []) (.n (.n (.two (.n (.j [1] [] [.s 5 (.dat (.int .u64))] .no)) (.n (.f (.j [] [] [.s 5 (.dat (.int .u64))] (.f (.l [] [] [.s 5 (.dat (.int .u64)),.s 6 (.dat (.int .u64))] 0 [] [] [.s 5 (.dat (.int .u64))] .no)))))))) Tryz.func161 [] (fun v vals x z ha hz=>.trans (by kernel_rfl) (Zsx hz)))
end Go.Eng
set_option maxRecDepth 100000
set_option maxHeartbeats 4000000
namespace Go.Eng
open Go.Proofs Go.RowKit
noncomputable def gcd_q:FuncId×Con:=(129,⟨[.leaf 0,.leaf 0],[.leaf 0],fun p=>gcdF p.1 p.2⟩)
theorem gcd_k:KQ gcd_q:=Zh (Zx (C:=cf2 [(55,0)] [Zrh,ZUi,Z4s]) (.n (.f (.cut ⟨⟨[],[],[]⟩,[(.norm,⟨[],[],[.s 0 (.dat (.leaf 0))]⟩),(.ret,⟨[],[],[.s 1000 (.dat (.leaf 0))]⟩)]⟩ (.f (.cut ⟨⟨[],[],[.s 0 (.dat (.leaf 0)),.s 1 (.dat (.leaf 0))]⟩,[(.ret,⟨[],[],[.s 1000 (.dat (.leaf 0))]⟩),(.exit 0,⟨[],[],[.s 0 (.dat (.leaf 0))]⟩)]⟩ (.f (.n (.f (.f (.f (.j [0,1] [] [.s 17 (.dat .bool)] .no))))))))))) Tryz.func129 [] (fun v vals x z ha hz=>.trans (by kernel_rfl) (gcdF_eq hz)) ⟨ZCl,ZSq,small_k,tr⟩)
end Go.Eng
set_option maxRecDepth 100000
set_option maxHeartbeats 4000000
namespace Go.Eng
open Go.Proofs Go.RowKit
noncomputable def ZRk:FuncId×Con:=(130,⟨[.leaf 0],[.bool],fun p=>ZFf p⟩)
theorem Z8o:KQ ZRk:=Zh (Zwj (C:=cf2 [] []) (.n (.f (.j [] [] [.s 2 (.dat .bool)] .no))) Tryz.func130 [] [.slice (.int .u64)] [.bool] (fun x=>((Zc 18446744073709551616 x))) (fun z=>z) (fun v vals x z ha hz=>.trans (by kernel_rfl) (ZGy.trans hz)))
end Go.Eng
set_option maxRecDepth 100000
set_option maxHeartbeats 4000000
namespace Go.Eng
open Go.Proofs Go.RowKit
noncomputable def Zli:FuncId×Con:=(95,⟨[.leaf 2,.leaf 0],[.leaf 3],fun p=>ZGc p.1 p.2⟩)
theorem Zdk:KQ Zli:=Zh (Zx (C:=cf0 [gcd_q,ZRk,ZUi] [] [] []) (.n (.two (.n (.n (.j [2,4] [] [.s 1 (.dat (.leaf 0)),.l (.sl 2) (.box 57 (.dat (.pair .bool (.leaf 0))))] .no))) (.f (.n (.j [2,4] [] [.s 1 (.dat (.leaf 0))] .no))))) Tryz.func95 [] (fun v vals x z ha hz=>.trans (by kernel_rfl) (Zfv hz)) ⟨gcd_k,Z8o,ZSq,tr⟩)
end Go.Eng
set_option maxRecDepth 100000
set_option maxHeartbeats 4000000
namespace Go.Eng
open Go.Proofs Go.RowKit
noncomputable def Z1e:FuncId×Con:=(96,⟨[.bool,.leaf 0],[.leaf 2],fun p=>Z1a p.1 p.2⟩)
theorem Zzg:KQ Z1e:=Zh (Zx (C:=cf0 [] [] [] []) (.n (.f (.j [4] [] [.l (.sl 4) (.box 57 (.dat (.pair .bool (.leaf 0))))] .no))) Tryz.func96 [] (fun v vals x z ha hz=>.trans (by kernel_rfl) (Znu hz)))
end Go.Eng
set_option maxRecDepth 100000
set_option maxHeartbeats 4000000
namespace Go.Eng
open Go.Proofs Go.RowKit
noncomputable def Zqp:FuncId×Con:=(55,⟨[.int .i64,.int .i64],[.leaf 3,.int .i64],fun p=>Zch p.1 p.2⟩)
theorem qnew_k:KQ Zqp:=Zh (Zx (C:=cf0 [of_q,Zli,Z1e] [] [] []) .no Tryz.func55 [] (fun v vals x z ha hz=>by obtain ⟨c0,w0,e0,p0,c1,e1,p1⟩:=ha;exact .trans (by kernel_rfl) (Z5v p0.2 p1.2 hz)) ⟨of_k,Zdk,Zzg,tr⟩)
end Go.Eng
set_option maxRecDepth 100000
set_option maxHeartbeats 4000000
namespace Go.Eng
open Go.Proofs Go.RowKit
noncomputable def Zdm:FuncId×Con:=(15,⟨[.pair (.int .i64) (.int .i64)],[.leaf 3],fun p=>ZOf p⟩)
theorem Z9r:KQ Zdm:=Zh (Zx (C:=cf0 [Ztl,Zqp] [] [] []) .no Tryz.func15 [] (fun v vals x z ha hz=>.trans (by kernel_rfl) (Z3u hz)) ⟨Zhr,qnew_k,tr⟩)
end Go.Eng
set_option maxRecDepth 100000
set_option maxHeartbeats 4000000
namespace Go.Eng
open Go.Proofs Go.RowKit
noncomputable def ZXg:FuncId×Con:=(11,⟨[.leaf 4],[.pair (.leaf 4) (.pair (.leaf 4) (.pair (.leaf 4) (.leaf 4)))],fun p=>Zpd p⟩)
theorem ZCh:KQ ZXg:=Zh (Zv (C:=cf0 [ZMf] [] [] []) .no Tryz.func11 [] (fun _=>by kernel_rfl) ⟨ZKg,tr⟩)
end Go.Eng
set_option maxRecDepth 100000
set_option maxHeartbeats 4000000
namespace Go.Eng
open Go.Proofs Go.RowKit
noncomputable def Zyn:FuncId×Con:=(43,⟨[.leaf 4],[.pair (.pair (.leaf 4) (.pair (.leaf 4) (.pair (.leaf 4) (.leaf 4)))) (.pair (.leaf 4) (.pair (.leaf 4) (.pair (.leaf 4) (.leaf 4))))],fun p=>Zpi p⟩)
theorem Zoo:KQ Zyn:=Zh (Zv (C:=cf0 [ZXg,ZMf] [] [] []) .no Tryz.func43 [] (fun _=>by kernel_rfl) ⟨ZCh,ZKg,tr⟩)
end Go.Eng
set_option maxRecDepth 100000
set_option maxHeartbeats 4000000
namespace Go.Eng
open Go.Proofs Go.RowKit
noncomputable def Zyk:FuncId×Con:=(10,⟨[.slice (.pair (.int .i64) (.int .i64))],[.slice (.leaf 3),.slice (.pair (.pair (.leaf 4) (.pair (.leaf 4) (.pair (.leaf 4) (.leaf 4)))) (.pair (.leaf 4) (.pair (.leaf 4) (.pair (.leaf 4) (.leaf 4)))))],fun p=>Z4d p⟩)
theorem ZQm:KQ Zyk:=Zh (Zv (C:=cf0 [Zuk,Zdm,Zyn] [] [] []) (.n (.n (.n (.f (.n (.f (.l [8,9] [] [.s 4 (.own 59 (.leaf 3)),.s 5 (.own 108 (.pair (.pair (.leaf 4) (.pair (.leaf 4) (.pair (.leaf 4) (.leaf 4)))) (.pair (.leaf 4) (.pair (.leaf 4) (.pair (.leaf 4) (.leaf 4)))))),.s 10 (.dat (.int .i64))] 0 [] [] [.s 4 (.own 59 (.leaf 3)),.s 5 (.own 108 (.pair (.pair (.leaf 4) (.pair (.leaf 4) (.pair (.leaf 4) (.leaf 4)))) (.pair (.leaf 4) (.pair (.leaf 4) (.pair (.leaf 4) (.leaf 4))))))] .no))))))) Tryz.func10 [] (fun _=>by kernel_rfl) ⟨rof_k,Z9r,Zoo,tr⟩)
end Go.Eng
set_option maxRecDepth 100000
set_option maxHeartbeats 4000000
namespace Go.Eng
open Go.Proofs Go.RowKit
noncomputable def Zqk:FuncId×Con:=(13,⟨[.slice (.pair (.int .i64) (.int .i64))],[.slice (.pair (.leaf 4) (.pair (.leaf 4) (.pair (.leaf 4) (.leaf 4))))],fun p=>ZBd p⟩)
theorem ZJl:KQ Zqk:=Zh (Zv (C:=cf0 [ZXg,Zuk] [] [] []) (.n (.n (.f (.n (.f (.l [6,7] [] [.s 3 (.own 47 (.pair (.leaf 4) (.pair (.leaf 4) (.pair (.leaf 4) (.leaf 4))))),.s 8 (.dat (.int .i64))] 0 [] [] [.s 3 (.own 47 (.pair (.leaf 4) (.pair (.leaf 4) (.pair (.leaf 4) (.leaf 4)))))] .no)))))) Tryz.func13 [] (fun _=>by kernel_rfl) ⟨ZCh,rof_k,tr⟩)
end Go.Eng
set_option maxRecDepth 100000
set_option maxHeartbeats 4000000
namespace Go.Eng
open Go.Proofs Go.RowKit
noncomputable def ZSk:FuncId×Con:=(26,⟨[.slice (.slice (.pair (.int .i64) (.int .i64)))],[.slice (.slice (.leaf 3)),.slice (.slice (.pair (.pair (.leaf 4) (.pair (.leaf 4) (.pair (.leaf 4) (.leaf 4)))) (.pair (.leaf 4) (.pair (.leaf 4) (.pair (.leaf 4) (.leaf 4))))))],fun p=>ZUf p⟩)
theorem Zls:KQ ZSk:=Zh (Zv (C:=cf0 [Zyk] [] [] []) (.n (.n (.f (.n (.f (.l [0,4,5,14] [] [.s 15 (.dat (.int .i64)),.l (.sl 4) (.own 31 (.slice (.leaf 3))),.l (.sl 5) (.own 40 (.slice (.pair (.pair (.leaf 4) (.pair (.leaf 4) (.pair (.leaf 4) (.leaf 4)))) (.pair (.leaf 4) (.pair (.leaf 4) (.pair (.leaf 4) (.leaf 4)))))))] 0 [4,5] [] [.l (.sl 4) (.own 31 (.slice (.leaf 3))),.l (.sl 5) (.own 40 (.slice (.pair (.pair (.leaf 4) (.pair (.leaf 4) (.pair (.leaf 4) (.leaf 4)))) (.pair (.leaf 4) (.pair (.leaf 4) (.pair (.leaf 4) (.leaf 4)))))))] .no)))))) Tryz.func26 [] (fun _=>by kernel_rfl) ⟨ZQm,tr⟩)
end Go.Eng
set_option maxRecDepth 100000
set_option maxHeartbeats 4000000
namespace Go.Eng
open Go.Proofs Go.RowKit
noncomputable def Zss:FuncId×Con:=(27,⟨[.slice (.slice (.pair (.int .i64) (.int .i64)))],[.slice (.slice (.pair (.leaf 4) (.pair (.leaf 4) (.pair (.leaf 4) (.leaf 4)))))],fun p=>Zsj p⟩)
theorem ZZt:KQ Zss:=Zh (Zv (C:=cf0 [Zqk] [] [] []) (.n (.n (.f (.n (.f (.l [0,3,9] [] [.s 10 (.dat (.int .i64)),.l (.sl 3) (.own 35 (.slice (.pair (.leaf 4) (.pair (.leaf 4) (.pair (.leaf 4) (.leaf 4))))))] 0 [3] [] [.l (.sl 3) (.own 35 (.slice (.pair (.leaf 4) (.pair (.leaf 4) (.pair (.leaf 4) (.leaf 4))))))] .no)))))) Tryz.func27 [] (fun _=>by kernel_rfl) ⟨ZJl,tr⟩)
end Go.Eng
set_option maxRecDepth 100000
set_option maxHeartbeats 4000000
namespace Go.Eng
open Go.Proofs Go.RowKit
noncomputable def Zem:FuncId×Con:=(9,⟨[.slice (.slice (.pair (.int .i64) (.int .i64))),.slice (.pair (.int .i64) (.int .i64)),.slice (.pair (.int .i64) (.int .i64))],[.pair (.slice (.slice (.leaf 3))) (.pair (.slice (.leaf 3)) (.slice (.leaf 3))),.pair (.slice (.slice (.pair (.leaf 4) (.pair (.leaf 4) (.pair (.leaf 4) (.leaf 4)))))) (.pair (.slice (.pair (.leaf 4) (.pair (.leaf 4) (.pair (.leaf 4) (.leaf 4))))) (.slice (.pair (.leaf 4) (.pair (.leaf 4) (.pair (.leaf 4) (.leaf 4))))))],fun p=>ZLh p.1 p.2.1 p.2.2⟩)
theorem Zpr:KQ Zem:=Zh (Zv (C:=cf0 [Zyk,Zqk,ZSk,Zss] [] [] []) .no Tryz.func9 [] (fun _=>by kernel_rfl) ⟨ZQm,ZJl,Zls,ZZt,tr⟩)
end Go.Eng
set_option maxRecDepth 100000
set_option maxHeartbeats 4000000
namespace Go.Eng
open Go.Proofs Go.RowKit
noncomputable def ZAf:FuncId×Con:=(25,⟨[.leaf 3],[.bool],fun p=>Znb p⟩)
theorem Zhg:KQ ZAf:=Zh (Zx (C:=cf0 [] [] [] []) .no Tryz.func25 [] (fun v vals x z ha hz=>.trans (by kernel_rfl) (ZNv hz)))
end Go.Eng
set_option maxRecDepth 100000
set_option maxHeartbeats 4000000
namespace Go.Eng
open Go.Proofs Go.RowKit
noncomputable def Zqg:FuncId×Con:=(33,⟨[.pair (.slice (.slice (.leaf 3))) (.pair (.slice (.leaf 3)) (.slice (.leaf 3)))],[.int .i64],fun p=>Zyc p⟩)
theorem Zci:KQ Zqg:=Zh (Zv (C:=cf0 [] [] [] []) (.n (.f (.f (.j [] [] [.s 27 (.dat .bool)] .no)))) Tryz.func33 [(78,Tryz.f78,.no),(79,Tryz.f79,.no),(113,Tryz.f113,.r [] [] [.s 1000 (.dat (.int .i64))] (.n (.f (.n (.f (.cut ⟨⟨[0,1,7],[],[.s 8 (.dat (.int .i64))]⟩,[(.exit 0,⟨[],[],[]⟩),(.ret,⟨[],[],[.s 1000 (.dat (.int .i64))]⟩)]⟩ .no))))))] (fun _=>by kernel_rfl) tr tr tr ⟨⟨Tryz.func78,fun _ _=>by kernel_rfl⟩,⟨Tryz.func79,fun _ _=>by kernel_rfl⟩,⟨Tryz.func113,fun _ _=>by kernel_rfl⟩,tr⟩)
end Go.Eng
set_option maxRecDepth 100000
set_option maxHeartbeats 4000000
namespace Go.Eng
open Go.Proofs Go.RowKit
noncomputable def Zvs:FuncId×Con:=(202,⟨[.leaf 2],[.int .i64],fun p=>ZFh p⟩)
theorem isign_k:KQ Zvs:=Zh (Zx (C:=cf0 [] [] [] []) .no Tryz.func202 [] (fun v vals x z ha hz=>.trans (by kernel_rfl) (ZWv hz)))
end Go.Eng
set_option maxRecDepth 100000
set_option maxHeartbeats 4000000
namespace Go.Eng
open Go.Proofs Go.RowKit
noncomputable def ZPf:FuncId×Con:=(211,⟨[.leaf 3],[.int .i64],fun p=>Zeb p⟩)
theorem Z3g:KQ ZPf:=Zh (Zx (C:=cf0 [Zvs] [] [] []) .no Tryz.func211 [] (fun v vals x z ha hz=>.trans (by kernel_rfl) (Zjw hz)) ⟨isign_k,tr⟩)
end Go.Eng
set_option maxRecDepth 100000
namespace Go.Eng
open Go.Proofs Go.RowKit
theorem ZCj : ∀ y w, (method (Tryz.prog.types.size + Made.depth) 59 y "Add").run Tryz.prog w = .ok (203, y) w := fun _ _ => by kernel_rfl
theorem Zxm : ∀ y w, (method (Tryz.prog.types.size + Made.depth) 59 y "Cmp").run Tryz.prog w = .ok (204, y) w := fun _ _ => by kernel_rfl
theorem Zjl : ∀ y w, (method (Tryz.prog.types.size + Made.depth) 59 y "Div").run Tryz.prog w = .ok (205, y) w := fun _ _ => by kernel_rfl
theorem Z1h : ∀ y w, (method (Tryz.prog.types.size + Made.depth) 59 y "Mul").run Tryz.prog w = .ok (206, y) w := fun _ _ => by kernel_rfl
theorem Z8f : ∀ y w, (method (Tryz.prog.types.size + Made.depth) 59 y "Neg").run Tryz.prog w = .ok (208, y) w := fun _ _ => by kernel_rfl
theorem ZEu : ∀ y w, (method (Tryz.prog.types.size + Made.depth) 59 y "Of").run Tryz.prog w = .ok (209, y) w := fun _ _ => by kernel_rfl
theorem ZYu : ∀ y w, (method (Tryz.prog.types.size + Made.depth) 59 y "Same").run Tryz.prog w = .ok (210, y) w := fun _ _ => by kernel_rfl
theorem Zbi : ∀ y w, (method (Tryz.prog.types.size + Made.depth) 59 y "Sign").run Tryz.prog w = .ok (211, y) w := fun _ _ => by kernel_rfl
theorem Zql : ∀ y w, (method (Tryz.prog.types.size + Made.depth) 59 y "Sub").run Tryz.prog w = .ok (212, y) w := fun _ _ => by kernel_rfl
theorem ZIj : ∀ y w, (method (Tryz.prog.types.size + Made.depth) 59 y "Zero").run Tryz.prog w = .ok (25, y) w := fun _ _ => by kernel_rfl
end Go.Eng
set_option maxRecDepth 100000
set_option maxHeartbeats 4000000
namespace Go.Eng
open Go.Proofs Go.RowKit
noncomputable def ZGj:FuncId×Con:=(49,⟨[.slice (.leaf 3)],[.bool],fun p=>Zfd p⟩)
theorem ZWm : KQ ZGj := Zh (Zv (C := cf0 [ZPf] [] [] [((59, "Sign"), 211)]) .no Tryz.func49 [(91, Tryz.f91, .no), (92, Tryz.f92, .no), (126, Tryz.f126, .r [] [] [.s 1000 (.dat (.int .i64))] (.n (.f (.n (.f (.cut ⟨⟨[0, 1, 7], [], [.s 8 (.dat (.int .i64))]⟩, [(.exit 0, ⟨[], [], []⟩), (.ret, ⟨[], [], [.s 1000 (.dat (.int .i64))]⟩)]⟩ .no))))))] (fun _ => by kernel_rfl) ⟨Z3g, tr⟩ tr ⟨Zbi, tr⟩ ⟨⟨Tryz.func91, fun _ _ => by kernel_rfl⟩, ⟨Tryz.func92, fun _ _ => by kernel_rfl⟩, ⟨Tryz.func126, fun _ _ => by kernel_rfl⟩, tr⟩)
end Go.Eng
set_option maxRecDepth 100000
set_option maxHeartbeats 4000000
namespace Go.Eng
open Go.Proofs Go.RowKit
noncomputable def Z1j:FuncId×Con:=(213,⟨[.leaf 0],[.leaf 0],fun p=>Zhc p⟩)
theorem Zvn:KQ Z1j:=Zh (Zx (C:=cf0 [Zrh] [] [] []) .no Tryz.func213 [] (fun v vals x z ha hz=>.trans (by kernel_rfl) (ZEy hz)) ⟨ZCl,tr⟩)
end Go.Eng
set_option maxRecDepth 100000
set_option maxHeartbeats 4000000
namespace Go.Eng
open Go.Proofs Go.RowKit
noncomputable def Z6j:FuncId×Con:=(176,⟨[.int .u64,.int .u64,.int .u64],[.int .u64,.int .u64],fun p=>Z6a p.1 p.2.1 p.2.2⟩)
theorem ZPp:Z1d Tryz.prog Z6j.1 Z6j.2:=fun w v vals x z _ ha hz=>by
 obtain ⟨c0,w0,e0,p0,c1,w1,e1,p1,c2,e2,p2⟩:=ha
 subst e0 e1 e2
 obtain ⟨rfl,h0⟩:=p0
 obtain ⟨rfl,h1⟩:=p1
 obtain ⟨rfl,h2⟩:=p2
 have p0:(Zd .u64).rel v [.int .u64 x.1] x.1:=⟨rfl,h0⟩
 have p1:(Zd .u64).rel v [.int .u64 x.2.1] x.2.1:=⟨rfl,h1⟩
 exact .inr ⟨.tuple #[.int .u64 z.1,.int .u64 z.2],fun w=>ZFl (show ZTe Tryz.prog 176 add64Entry from ⟨_,Tryz.func176,by kernel_rfl,by kernel_rfl,by kernel_rfl,by kernel_rfl⟩) hz w,_,rfl,_,_,rfl,⟨rfl,Zfn hz⟩,_,rfl,⟨rfl,addW_hi p0.2 p1.2 hz⟩⟩
end Go.Eng
set_option maxRecDepth 100000
set_option maxHeartbeats 4000000
namespace Go.Eng
open Go.Proofs Go.RowKit
noncomputable def ZRg:FuncId×Con:=(216,⟨[.leaf 0,.leaf 0],[.leaf 0],fun p=>Z0b p.1 p.2⟩)
theorem ZMh:KQ ZRg:=Zh (Zx (C:=cf2 [(55,0)] [ZRk,Zwe,ZMm,Z6j]) (.n (.n (.n (.n (.f (.n (.j [] [] [.s 5 (.own 153 (.int .u64))] (.f (.l [1,26,27] [] [.s 5 (.own 153 (.int .u64)),.s 28 (.dat (.int .i64))] 0 [] [] [.s 5 (.own 153 (.int .u64))] (.f (.n (.n (.f (.f (.n (.n (.f (.n (.j [1,6,26,27,28] [] [.s 5 (.own 153 (.int .u64)),.s 8 (.dat (.int .u64))] (.f (.l [1,6,7,26,27,28,33,34] [] [.s 5 (.own 153 (.int .u64)),.s 8 (.dat (.int .u64)),.s 35 (.dat (.int .i64))] 2 [1,6,26,27,28] [] [.s 5 (.own 153 (.int .u64)),.s 8 (.dat (.int .u64))] .no))))))))))))))))))))) Tryz.func216 [] (fun v vals x z ha hz=>.trans (by kernel_rfl) (ZHu hz)) ⟨Z8o,ZHg,mul64_k,ZPp,tr⟩)
end Go.Eng
set_option maxRecDepth 100000
set_option maxHeartbeats 4000000
namespace Go.Eng
open Go.Proofs Go.RowKit
noncomputable def ZZm:FuncId×Con:=(214,⟨[.leaf 2,.leaf 0],[.leaf 2],fun p=>ZPe p.1 p.2⟩)
theorem Zgr:KQ ZZm:=Zh (Zx (C:=cf0 [Z1e,ZRg] [] [] []) .no Tryz.func214 [] (fun v vals x z ha hz=>.trans (by kernel_rfl) (ZOv hz)) ⟨Zzg,ZMh,tr⟩)
end Go.Eng
set_option maxRecDepth 100000
set_option maxHeartbeats 4000000
namespace Go.Eng
open Go.Proofs Go.RowKit
noncomputable def ZUr:FuncId×Con:=(219,⟨[.leaf 0,.leaf 0],[.leaf 0],fun p=>ZJh p.1 p.2⟩)
theorem plus_k:KQ ZUr:=Zh (Zx (C:=cf2 [(55,0)] [Z6j]) (.n (.two (.n (.j [] [] [.s 0 (.dat (.leaf 0)),.s 1 (.dat (.leaf 0))] .no)) (.n (.n (.two (.n (.j [] [] [.s 5 (.own 153 (.int .u64)),.s 6 (.dat (.int .u64))] (.f (.l [1,23,24] [] [.s 5 (.own 153 (.int .u64)),.s 6 (.dat (.int .u64)),.s 25 (.dat (.int .i64))] 0 [] [] [.s 5 (.own 153 (.int .u64)),.s 6 (.dat (.int .u64))] (.f (.n (.n (.f (.f (.n (.n (.f (.n (.j [1,5,6,7,8,23,24,25] [] [.s 9 (.dat (.int .u64))] .no)))))))))))))) (.f (.n (.j [] [] [.s 5 (.own 153 (.int .u64))] .no)))))))) Tryz.func219 [] (fun v vals x z ha hz=>.trans (by kernel_rfl) (ZWu hz)) ⟨ZPp,tr⟩)
end Go.Eng
set_option maxRecDepth 100000
set_option maxHeartbeats 4000000
namespace Go.Eng
open Go.Proofs Go.RowKit
noncomputable def Z8k:FuncId×Con:=(180,⟨[.int .u64,.int .u64,.int .u64],[.int .u64,.int .u64],fun p=>ZVc p.1 p.2.1 p.2.2⟩)
theorem sub64_k:Z1d Tryz.prog Z8k.1 Z8k.2:=fun w v vals x z _ ha hz=>by
 obtain ⟨c0,w0,e0,p0,c1,w1,e1,p1,c2,e2,p2⟩:=ha
 subst e0 e1 e2
 obtain ⟨rfl,h0⟩:=p0
 obtain ⟨rfl,h1⟩:=p1
 obtain ⟨rfl,h2⟩:=p2
 have p0:(Zd .u64).rel v [.int .u64 x.1] x.1:=⟨rfl,h0⟩
 have p1:(Zd .u64).rel v [.int .u64 x.2.1] x.2.1:=⟨rfl,h1⟩
 exact .inr ⟨.tuple #[.int .u64 z.1,.int .u64 z.2],fun w=>ZJp (show ZTe Tryz.prog 180 ZOi from ⟨_,Tryz.func180,by kernel_rfl,by kernel_rfl,by kernel_rfl,by kernel_rfl⟩) p0.2 p1.2 hz w,_,rfl,_,_,rfl,⟨rfl,Zaq hz⟩,_,rfl,⟨rfl,Z7n hz⟩⟩
end Go.Eng
set_option maxRecDepth 100000
set_option maxHeartbeats 4000000
namespace Go.Eng
open Go.Proofs Go.RowKit
noncomputable def Z2o:FuncId×Con:=(220,⟨[.leaf 0,.leaf 0],[.leaf 0],fun p=>ZJg p.1 p.2⟩)
theorem minus_k:KQ Z2o:=Zh (Zx (C:=cf2 [(55,0)] [Zwe,Z8k]) (.n (.n (.n (.f (.n (.j [] [] [.s 5 (.own 153 (.int .u64))] (.f (.l [1,13,14] [] [.s 5 (.own 153 (.int .u64)),.s 6 (.dat (.int .u64)),.s 15 (.dat (.int .i64))] 0 [] [] [.s 5 (.own 153 (.int .u64))] (.f (.n (.n (.f (.f (.n (.n (.f (.n (.j [1,5,6,7,8,13,14,15] [] [.s 9 (.dat (.int .u64))] .no)))))))))))))))))) Tryz.func220 [] (fun v vals x z ha hz=>.trans (by kernel_rfl) (ZYw hz)) ⟨ZHg,sub64_k,tr⟩)
end Go.Eng
set_option maxRecDepth 100000
set_option maxHeartbeats 4000000
namespace Go.Eng
open Go.Proofs Go.RowKit
noncomputable def Ztr:FuncId×Con:=(215,⟨[.leaf 2,.leaf 2],[.leaf 2],fun p=>Zxi p.1 p.2⟩)
theorem iplus_k:KQ Ztr:=Zh (Zx (C:=cf0 [Z1e,ZSj,ZUr,Z2o] [] [] []) .no Tryz.func215 [] (fun v vals x z ha hz=>.trans (by kernel_rfl) (Zew hz)) ⟨Zzg,cmp_k,plus_k,minus_k,tr⟩)
end Go.Eng
set_option maxRecDepth 100000
set_option maxHeartbeats 4000000
namespace Go.Eng
open Go.Proofs Go.RowKit
noncomputable def Zrg:FuncId×Con:=(203,⟨[.leaf 3,.leaf 3],[.leaf 3],fun p=>Zqc p.1 p.2⟩)
theorem ZTh:KQ Zrg:=Zh (Zx (C:=cf0 [Zli,Z1j,ZZm,Ztr,ZRg] [] [] []) .no Tryz.func203 [] (fun v vals x z ha hz=>.trans (by kernel_rfl) (Z7x hz)) ⟨Zdk,Zvn,Zgr,iplus_k,ZMh,tr⟩)
end Go.Eng
set_option maxRecDepth 100000
set_option maxHeartbeats 4000000
namespace Go.Eng
open Go.Proofs Go.RowKit
noncomputable def ZLs:FuncId×Con:=(218,⟨[.leaf 2],[.leaf 2],fun p=>Zmh p⟩)
theorem Z8v:KQ ZLs:=Zh (Zx (C:=cf0 [Z1e] [] [] []) .no Tryz.func218 [] (fun v vals x z ha hz=>.trans (by kernel_rfl) (Ziu hz)) ⟨Zzg,tr⟩)
end Go.Eng
set_option maxRecDepth 100000
set_option maxHeartbeats 4000000
namespace Go.Eng
open Go.Proofs Go.RowKit
noncomputable def ZKe:FuncId×Con:=(208,⟨[.leaf 3],[.leaf 3],fun p=>Ztc p⟩)
theorem Zcf:KQ ZKe:=Zh (Zx (C:=cf0 [ZLs] [] [] []) .no Tryz.func208 [] (fun v vals x z ha hz=>.trans (by kernel_rfl) (ZVu hz)) ⟨Z8v,tr⟩)
end Go.Eng
set_option maxRecDepth 100000
set_option maxHeartbeats 4000000
namespace Go.Eng
open Go.Proofs Go.RowKit
noncomputable def Zhh:FuncId×Con:=(212,⟨[.leaf 3,.leaf 3],[.leaf 3],fun p=>Z5c p.1 p.2⟩)
theorem Z5j:KQ Zhh:=Zh (Zx (C:=cf0 [Zrg,ZKe] [] [] []) .no Tryz.func212 [] (fun v vals x z ha hz=>.trans (by kernel_rfl) (ZXv hz)) ⟨ZTh,Zcf,tr⟩)
end Go.Eng
set_option maxRecDepth 100000
set_option maxHeartbeats 4000000
namespace Go.Eng
open Go.Proofs Go.RowKit
noncomputable def Z3j:FuncId×Con:=(204,⟨[.leaf 3,.leaf 3],[.int .i64],fun p=>ZMe p.1 p.2⟩)
theorem Zln:KQ Z3j:=Zh (Zx (C:=cf0 [ZPf,Zhh] [] [] []) .no Tryz.func204 [] (fun v vals x z ha hz=>.trans (by kernel_rfl) (ZQt hz)) ⟨Z3g,Z5j,tr⟩)
end Go.Eng
set_option maxRecDepth 100000
set_option maxHeartbeats 4000000
namespace Go.Eng
open Go.Proofs Go.RowKit
noncomputable def Zmk:FuncId×Con:=(51,⟨[.slice (.leaf 3),.slice (.leaf 3)],[.bool],fun p=>ZAg p.1 p.2⟩)
theorem ZKl : KQ Zmk := Zh (Zv (C := cf0 [Z3j] [] [] [((59, "Cmp"), 204)]) (.n (.f (.n (.f (.cut ⟨⟨[0, 1, 7], [], [.s 8 (.dat (.int .i64))]⟩, [(.exit 0, ⟨[], [], []⟩), (.ret, ⟨[], [], [.s 1000 (.dat .bool)]⟩)]⟩ .no))))) Tryz.func51 [] (fun _ => by kernel_rfl) ⟨Zln, tr⟩ tr ⟨Zxm, tr⟩)
end Go.Eng
set_option maxRecDepth 100000
set_option maxHeartbeats 4000000
namespace Go.Eng
open Go.Proofs Go.RowKit
noncomputable def qOf_q:FuncId×Con:=(209,⟨[.leaf 3,.leaf 3],[.leaf 3],fun p=>qOf_m p.1 p.2⟩)
theorem qOf_k:KQ qOf_q:=Zh (Zv (C:=cf0 [] [] [] []) .no Tryz.func209 [] (fun _=>by kernel_rfl))
end Go.Eng
set_option maxRecDepth 100000
set_option maxHeartbeats 4000000
namespace Go.Eng
open Go.Proofs Go.RowKit
noncomputable def ZDd:FuncId×Con:=(72,⟨[.int .i64],[.leaf 3],fun p=>ZHa p⟩)
theorem Zte : KQ ZDd := Zh (Zv (C := cf0 [Ztl, qOf_q] [] [] [((59, "Of"), 209)]) .no Tryz.func72 [] (fun _ => by kernel_rfl) ⟨Zhr, qOf_k, tr⟩ tr ⟨ZEu, tr⟩)
end Go.Eng
set_option maxRecDepth 100000
set_option maxHeartbeats 4000000
namespace Go.Eng
open Go.Proofs Go.RowKit
noncomputable def Zpt:FuncId×Con:=(217,⟨[.leaf 2,.leaf 2],[.leaf 2],fun p=>Zdh p.1 p.2⟩)
theorem Zhw:KQ Zpt:=Zh (Zx (C:=cf0 [Z1e,ZRg] [] [] []) .no Tryz.func217 [] (fun v vals x z ha hz=>.trans (by kernel_rfl) (Zuu hz)) ⟨Zzg,ZMh,tr⟩)
end Go.Eng
set_option maxRecDepth 100000
set_option maxHeartbeats 4000000
namespace Go.Eng
open Go.Proofs Go.RowKit
noncomputable def ZVg:FuncId×Con:=(206,⟨[.leaf 3,.leaf 3],[.leaf 3],fun p=>ZTa p.1 p.2⟩)
theorem ZAh:KQ ZVg:=Zh (Zx (C:=cf0 [Zli,Z1j,ZRg,Zpt] [] [] []) .no Tryz.func206 [] (fun v vals x z ha hz=>.trans (by kernel_rfl) (ZEw hz)) ⟨Zdk,Zvn,ZMh,Zhw,tr⟩)
end Go.Eng
set_option maxRecDepth 100000
set_option maxHeartbeats 4000000
namespace Go.Eng
open Go.Proofs Go.RowKit
noncomputable def ZYh:FuncId×Con:=(48,⟨[.slice (.leaf 3),.slice (.leaf 3)],[.leaf 3],fun p=>Zlc p.1 p.2⟩)
theorem ZPj : KQ ZYh := Zh (Zv (C := cf0 [ZDd, Zrg, ZVg] [] [] [((59, "Add"), 203), ((59, "Mul"), 206)]) (.n (.n (.f (.n (.f (.l [0, 1, 4, 5, 9] [] [.s 10 (.dat (.int .i64)), .l (.sl 5) (.box 59 (.dat (.leaf 3)))] 0 [4, 5] [] [.l (.sl 5) (.box 59 (.dat (.leaf 3)))] .no)))))) Tryz.func48 [] (fun _ => by kernel_rfl) ⟨Zte, ZTh, ZAh, tr⟩ tr ⟨ZCj, Z1h, tr⟩)
end Go.Eng
set_option maxRecDepth 100000
set_option maxHeartbeats 4000000
namespace Go.Eng
open Go.Proofs Go.RowKit
noncomputable def Zcm:FuncId×Con:=(52,⟨[.slice (.slice (.leaf 3)),.slice (.leaf 3)],[.slice (.leaf 3)],fun p=>ZDh p.1 p.2⟩)
theorem ZJq:KQ Zcm:=Zh (Zv (C:=cf0 [ZYh] [] [] []) (.n (.n (.f (.n (.f (.l [1,8,9] [] [.s 5 (.own 59 (.leaf 3)),.s 10 (.dat (.int .i64))] 0 [] [] [.s 5 (.own 59 (.leaf 3))] .no)))))) Tryz.func52 [] (fun _=>by kernel_rfl) ⟨ZPj,tr⟩)
end Go.Eng
set_option maxRecDepth 100000
set_option maxHeartbeats 4000000
namespace Go.Eng
open Go.Proofs Go.RowKit
noncomputable def Z3l:FuncId×Con:=(46,⟨[.pair (.slice (.slice (.leaf 3))) (.pair (.slice (.leaf 3)) (.slice (.leaf 3))),.slice (.leaf 3)],[.bool],fun p=>Zth p.1 p.2⟩)
theorem Z6p:KQ Z3l:=Zh (Zv (C:=cf0 [ZGj,Zmk,Zcm] [] [] []) (.n (.f (.j [] [] [.s 4 (.dat .bool)] .no))) Tryz.func46 [] (fun _=>by kernel_rfl) ⟨ZWm,ZKl,ZJq,tr⟩)
noncomputable def Zck (x:Int) (y:Int):Option (Int×Int) :=
 bnd (Z8b x y) fun a =>
 some ((a.1,a.2))
end Go.Eng
namespace Go.Eng
open Go.Proofs Go.RowKit
theorem bmul_w {c:World} {a:Zb} (hv:VIn a c) {d:List Value} {x:Int} (i:Rep.rel (Zd .u64) a d x) {e:List Value} {y:Int} (j:Rep.rel (Zd .u64) a e y) {z:Int×Int} (H:Zck x y=some z):Ret Tryz.prog 127 #[(Zd .u64).val d,(Zd .u64).val e] c a (fun y v'=>∃ g b,y = .tuple #[(Zd .u64).val g,(Zd .u64).val b]∧(Zd .u64).rel v' g z.1∧(Zd .u64).rel v' b z.2):=by
 obtain ⟨rfl,b⟩:=i;obtain ⟨rfl,k⟩:=j;refine ZEi (K:=30) (args:=[.int .u64 x,.int .u64 y]) hv Tryz.func127 rfl rfl zl fun f S=>?_;unfold Zck at H;refine sr (mw S rfl fun f S=>mw S rfl fun f S=>oe (Zz fun _ l=>Zwa S rfl rfl (wp_skip (Zp (l _ _ (Zz fun _ m=>bO H fun h n H=>ZP (mv S rfl fun f S=>mv S rfl fun f S=>opc S rfl (Zka S [.int .u64 x,.int .u64 y] ZCn rfl rfl) (Z4m S.vin (show Rep.rel (Zd .u64) _ [.int .u64 x] x from (Z0 b)) (show Rep.rel (Zd .u64) _ [.int .u64 y] y from (Z0 k)) n) ?_)))))));rintro _ s f w t ⟨u,v,rfl,o,p⟩ S;obtain ⟨rfl,q⟩:=o;obtain ⟨rfl,r⟩:=p;refine mv S rfl fun f S=>ov S rfl (Zta S rfl rfl) fun f S=>ov S rfl (Zta S rfl rfl) fun f S=>mw S rfl fun f S=>mw S rfl fun f S=>ZJ (Zp (m _ _ (sr (mv S rfl fun f S=>mv S rfl fun f S=>mw S rfl fun f S=>mw S rfl fun f S=>oe (wp_ret ?_)))));obtain rfl:=ZE H;refine Zif S (Zgk rfl (ZMa S rfl) (ZMa S rfl)) ⟨[.int .u64 (h.1)],[.int .u64 (h.2)],rfl,(Z0 q),(Z0 r)⟩
set_option maxRecDepth 100000
theorem ZEm:Elem Tryz.prog 31 59 (ZW).n 56 (Value.agg #[Value.bool false,Value.slice none 0 0,Value.slice none 0 0]):=⟨Tryz.underlying31,by kernel_rfl,rfl,by decide⟩
theorem ZCk:Zlb Tryz.prog 31 59 (ZW).n:=⟨fun _=>by kernel_rfl,fun _=>by kernel_rfl⟩
theorem Zhv:Tryz.prog.follows .mixedOrders=true:=by kernel_rfl
theorem Zpw:ZG Tryz.prog 127:=fun _ _=>by kernel_rfl
theorem Z5p:ConvI Tryz.prog 3 200 .i64 .u64:=fun _ _=>by kernel_rfl
theorem ZXt:ConvI Tryz.prog 200 3 .u64 .i64:=fun _ _=>by kernel_rfl
noncomputable def Zqf:FuncId×ConO:=(93,⟨[.slice (.leaf 3),.int .i64],59,.leaf 3,fun p=>Zoc 56 p.1 p.2⟩)
theorem Zsi:Zre Tryz.prog Zqf.1 Zqf.2:=fun w v vals x z hv ha hz=>by
 obtain ⟨cs,vs,rfl,p0,c1,rfl,rfl,hin⟩:=ha
 obtain ⟨x1,k0⟩:=x
 have hz:Zoc 56 (show List Rat from x1) k0=some z:=hz
 obtain ⟨y,hx1,hzr,hmk⟩:=ZKt hz
 have hx1:x1=[y]:=hx1
 subst hx1 hzr
 obtain ⟨h0,_,hb1,hb2⟩:=Zmd hmk
 obtain ⟨k,rfl⟩:=Int.eq_ofNat_of_zero_le h0
 obtain ⟨q,c,e,hc1,hc2,hne⟩:=(show (Zl ZW).rel v cs [y] from p0)
 subst e
 rcases hne with hne | ⟨b,off,cc,TT,fr,rfl,hvb,hrel⟩
 ·cases hne
 have hlen1:([y]:List Rat).length=1:=rfl
 rw [hlen1] at hrel
 obtain ⟨c1,c2,e12,hrc,e2⟩:=hrel
 have e2:c2=[]:=e2
 subst e2
 rw [List.append_nil,Nat.one_mul] at e12
 have hl1:=Rep.len _ hrc
 have hAt:At v b off c1:=⟨cc,TT,fr,hvb,by rw [hl1];exact e12⟩
 refine ⟨fun _ _=>by kernel_rfl,?_⟩
 have hk:((k:Int).toNat)=k:=Int.toNat_natCast k
 rw [hk]
 refine Zpk (K:=48) (args:=[.slice (some ⟨b,off,none⟩) 1 c,.int .i64 (k:Int)]) hv Tryz.func93 rfl rfl zl fun fa hS=>?_
 refine sr ?_
 refine mw hS rfl fun fa hS=>?_
 refine oe ?_
 refine wp_seq_k fun N1 hN1=>?_
 refine sr ?_
 refine mv hS rfl fun fa hS=>?_
 refine ov hS rfl (ZA hS rfl rfl Z3d) fun fa hS=>?_
 refine oe ?_
 refine Zwa hS rfl (decide_eq_false (by omega)) ?_
 refine wp_skip ?_
 refine Zp (hN1 _ _ ?_)
 refine sr ?_
 refine mv hS rfl fun fa hS=>?_
 refine ov hS rfl (Zzb hS rfl rfl ZCk) fun fa hS=>?_
 refine ov hS rfl (Zyf hS rfl (Z5p _)) fun fa hS=>?_
 refine mv hS rfl fun fa hS=>?_
 refine ov hS rfl (Zyf hS rfl (Z5p _)) fun fa hS=>?_
 have w1:IntKind.u64.wrap ((1:Nat):Int)=1:=by decide
 have w2:IntKind.u64.wrap (k:Int)=k:=Z6d (ZKc.2 (by omega))
 rw [w1,w2] at hS
 have hmul:Zck 1 (k:Int)=some (0,(k:Int)):=by
  unfold Zck Z8b;rw [if_pos (by omega),Za];simp only;congr 2 <;> omega
 refine ZHr hS wn rfl zl (Zka hS [.int .u64 1,.int .u64 (k:Int)] Zpw rfl rfl) (bmul_w hS.vin (show Rep.rel (Zd .u64) _ [.int .u64 1] 1 from Z0 (by decide)) (show Rep.rel (Zd .u64) _ [.int .u64 (k:Int)] (k:Int) from Z0 (ZKc.2 (by omega))) hmul) ?_;rintro _ v1 fa wo hle ⟨r0,r1,rfl,⟨rfl,_⟩,⟨rfl,_⟩⟩ hS;refine mv hS rfl fun fa hS=>?_;refine ov hS rfl (Zta hS rfl rfl) fun fa hS=>?_;refine ov hS rfl (Zta hS rfl rfl) fun fa hS=>?_;refine mw hS rfl fun fa hS=>?_;refine mw hS rfl fun fa hS=>?_;refine oe ?_;refine wp_seq_k fun N2 hN2=>?_;refine sr ?_;refine mv hS rfl fun fa hS=>?_;refine ov hS rfl (ZA hS rfl rfl Zvf) fun fa hS=>?_;have g1:decide ((0:Int)<0)=false:=rfl;have hS:St _ _ _ ((22,Value.bool false) :: _) _ _ _ _:=hS;refine mv hS rfl fun fa hS=>?_;refine op_v hS (ZKf hS rfl rfl rfl zl) rfl zl (ZD hS rfl) fun fa hS=>?_;refine op_v hS (ZKf hS rfl rfl rfl zl) rfl zl (ZA hS rfl rfl Zvf) fun fa hS=>?_;refine ov hS rfl (Zoe (b:=false) hS rfl rfl) fun fa hS=>?_;refine oe ?_;refine Zwa hS rfl (decide_eq_false (by omega)) ?_;refine wp_skip ?_;refine Zp (hN2 _ _ ?_);refine sr ?_;refine mv hS rfl fun fa hS=>?_;refine ov hS rfl (Zyf hS rfl (ZXt _)) fun fa hS=>?_;have w3:IntKind.i64.wrap (k:Int)=k:=Z6d (ZJa.2 (by omega));rw [w3] at hS;obtain ⟨b2,wo,hrun,hS'⟩:=ZUl ZEm hS (l:=(k:Int)) (c:=(k:Int)) h0 (Int.le_refl _) hb1 hb2
 refine Zkc wn rfl zl (hrun rfl rfl) hS' fun fa hS=>?_;refine mw hS rfl fun fa hS=>?_;refine oe ?_;rw [hk] at hS;have hS:=hS.fr' (σ':=[(7,.slice (mkA (some b2)) k k),(0,.slice (some ⟨b,off,none⟩) 1 c)]) rfl;have src1:∀ {σ:List (Nat×Value)} {ℓ:List Loc} {v':Zb} {a:Act} {w':World},St 48 w v σ ℓ v' a w'→∀ j u,c1[j]? = some u→w'.cell? ((⟨b,off,none⟩:Addr).add j)=some u:=fun hS j u hu=>by
  have:=(hS.view (At.mono hS.vst.le hAt)).cell hu
  rwa [Zga]
 have hpl1:c1.all plain=true:=Rep.flat _ hrc;obtain ⟨zc,hzc⟩:∃ zc:List Value,zc=(Value.agg #[Value.bool false,Value.slice none 0 0,Value.slice none 0 0]:Value).cells.toList:=⟨_,rfl⟩;have hzl:zc.length=(ZW).n:=by rw [hzc];rfl
 rw [← hzc] at hS
 let Inv:Nat→Act→World→Prop:=fun j a w'=>∃ v',j≤k∧(0<k→0<j)∧St 48 w v [(8,.int .i64 (j:Int)),(7,.slice (mkA (some b2)) k k)] [.own (some b2) 59 (ZW).n k k ((List.replicate j c1).flatten++(List.replicate (k-j) zc).flatten)] v' a w'
 have rl:=fun n=>Z1i hl1 n;have rpl:∀ n:Nat,((List.replicate n c1).flatten).all plain=true:=fun n=>ZUu hpl1 n;have step:=fun j m (hjm:j+m≤k)=>rp_step (k:=k) hl1 hzl hjm;refine sr ?_;refine mv hS rfl fun fa hS=>?_;refine mv hS rfl fun fa hS=>?_;have hS1:St 48 w v _ [.own (some b2) 59 (ZW).n k k ((List.replicate 0 c1).flatten++(List.replicate (k-0) zc).flatten)] v1 fa wo:=hS;obtain ⟨wo2,hr,hS'⟩:=ZTp (t:=31) (sT:=31) ZEm hS1 (i:=0) rfl (p:=0) (k:=min 1 k) (c:=(List.replicate (min 1 k) c1).flatten) (rl _) (by omega) (rpl _) (ad:=⟨b,off,none⟩) (sLen:=1) (sCap:=c) (dLen:=k) (dCap:=k) (fun j u hu=>by
  rcases Nat.lt_or_ge 0 k with hk0 | hk0
  ·rw [show min 1 k=1 by omega] at hu;simp only [List.replicate_one,List.flatten_cons,List.flatten_nil,List.append_nil] at hu;exact src1 hS1 j u hu
  ·rw [show min 1 k=0 by omega] at hu;simp at hu) rfl
 have hst:=step 0 (min 1 k) (by omega);simp only [List.set_cons_zero] at hS';rw [hst] at hS';simp only [Nat.zero_add] at hS';rw [Nat.zero_mul] at hr;refine Zkc wn rfl zl (Z4o hS1 rfl rfl (hr _)) hS' fun fa hS=>?_;refine mw hS rfl fun fa hS=>?_;refine oe ?_;have hS:=hS.fr' (σ':=[(8,.int .i64 ((min 1 k:Nat):Int)),(7,.slice (mkA (some b2)) k k)]) rfl;refine wp_seq_k fun N3 hN3=>?_;refine wp_block ?_;refine wp_loop_fuel (fun m a w'=>∃ j,k-j<m∧Inv j a w') (k+1) ⟨min 1 k,by omega,v1,by omega,by omega,hS⟩ (fun a w' ⟨j,h,_⟩=>by omega) ?_;rintro m fa wo3 ⟨j,hjm,v3,hjk,hj0,hS⟩ N hN;refine wp_seq_k fun N4 hN4=>?_;refine sr ?_;refine mv hS rfl fun fa hS=>?_;refine mv hS rfl fun fa hS=>?_;refine ov hS rfl (Zzb hS rfl rfl ZCk) fun fa hS=>?_;refine ov hS rfl (ZA hS rfl rfl Z3d) fun fa hS=>?_;refine oe ?_;by_cases hlt:j<k
 ·refine Zgb hS rfl (decide_eq_true (by omega)) ?_;refine wp_skip ?_;refine Zp (hN4 _ _ ?_);refine wp_block ?_;have hS:=hS.fr' (σ':=[(8,.int .i64 (j:Int)),(7,.slice (mkA (some b2)) k k)]) rfl;refine ZUg (fl:=#[true,true,true,true,true,true,true,false,false,false]) Zhv (by kernel_rfl) hS ?_;intro ops hops hF wo hS;refine rf hops hF 0 rfl (by kernel_rfl) rfl hS (ZD hS rfl) fun fa hS=>?_;refine rf hops hF 1 rfl (by kernel_rfl) rfl hS (ZD hS rfl) fun fa hS=>?_;refine rf hops hF 2 rfl (by kernel_rfl) rfl hS (ZD hS rfl) fun fa hS=>?_;refine rf hops hF 3 rfl (by kernel_rfl) rfl hS (ZFy hS ZCk rfl rfl (by omega) (by omega)) fun fa hS=>?_;refine rf hops hF 4 rfl (by kernel_rfl) rfl hS (ZD hS rfl) fun fa hS=>?_;refine rf hops hF 5 rfl (by kernel_rfl) rfl hS (ZD hS rfl) fun fa hS=>?_;refine rf hops hF 6 rfl (by kernel_rfl) rfl hS (Z0n hS ZCk rfl rfl (by omega) (by omega)) fun fa hS=>?_;rw [Nat.zero_add] at hS;obtain ⟨wo',hr,hS'⟩:=ZTp (t:=31) (sT:=31) ZEm hS (i:=0) rfl (p:=j) (k:=min j (k-j)) (c:=(List.replicate (min j (k-j)) c1).flatten) (rl _) (by omega) (rpl _) (ad:=⟨b2,0,none⟩) (sLen:=j) (sCap:=k) (dLen:=k-j) (dCap:=k-j) (fun i u hu=>by
   have hi:=(List.getElem?_eq_some_iff.1 hu).1;refine Z4g hS (j:=0) rfl i u ?_;rw [Z8q (c:=c1) (m:=min j (k-j)) (n:=j) (by omega),List.append_assoc,List.getElem?_append_left hi];exact hu) rfl
  have hst:=step j (min j (k-j)) (by omega);simp only [List.set_cons_zero] at hS';rw [hst] at hS';refine Zue hops hF 7 (by kernel_rfl) ?_;refine Zcl [3,6,1,2,4,5] [0] hops rfl (by kernel_rfl) wn rfl zl (Z4o hS rfl rfl (hr _)) hS' fun fa hS=>?_;refine ⟨(py hS rfl rfl (ZD hS rfl) ZVb),?_⟩;refine Zue hops hF 8 (by kernel_rfl) ?_;have hadd:chk .i64 ((j:Int)+((min j (k-j):Nat):Int))=some ((j+min j (k-j):Nat):Int):=by rw [Zu (by omega) (by omega)];rfl
  refine nv [0,7,3,6,1,2,4,5] [] hops rfl (by kernel_rfl) rfl hS (ZA hS rfl rfl (Zsf hadd)) fun fa hS=>?_;refine ⟨ZVb,?_⟩;refine Zue hops hF 9 (by kernel_rfl) ?_;refine nv [0,1,2,3,4,5,6,7,8] [] hops rfl (by kernel_rfl) rfl hS (Z8c hS rfl) fun fa hS=>?_;refine ⟨ZVb,?_⟩;refine Zlk hops hF (by kernel_rfl) ?_;refine Zod ?_;have hj0:=hj0 (by omega);exact Zp (hN _ _ ⟨j+min j (k-j),by omega,v3,by omega,fun _=>by omega,hS.fr' rfl⟩)
 refine Zwa hS rfl (decide_eq_false (by omega)) ?_;refine wp_exit ?_;refine ZRa ?_;refine ZRa ?_;refine Zrd ?_;refine Zp (hN3 _ _ ?_);have hjk:j=k:=by omega
 subst hjk;rw [Nat.sub_self,List.replicate_zero,List.flatten_nil,List.append_nil] at hS;refine sr ?_;refine mv hS rfl fun fa hS=>?_;refine mw hS rfl fun fa hS=>?_;refine oe ?_;refine wp_ret ?_;exact Z7m hS (i:=0) rfl (ZFc rfl (ZMa hS rfl)) (Z6g (Rep.mono _ hS.vst.le hrc) _) (List.length_replicate (n:=j) (a:=y)).symm
end Go.Eng
set_option maxRecDepth 100000
set_option maxHeartbeats 4000000
namespace Go.Eng
open Go.Proofs Go.RowKit
noncomputable def Zyh:FuncId×ConO:=(53,⟨[.int .i64],59,.leaf 3,fun p=>Zof p⟩)
theorem Zkk:KO Zyh:=cono_z (C:=cf0 [ZDd] [] [Zqf] []) .no Tryz.func53 [] (fun _=>by kernel_rfl) ⟨Zte,tr⟩ ⟨Zsi,tr⟩
end Go.Eng
set_option maxRecDepth 100000
set_option maxHeartbeats 4000000
namespace Go.Eng
open Go.Proofs Go.RowKit
noncomputable def Zvm:FuncId×Con:=(50,⟨[.pair (.slice (.slice (.leaf 3))) (.pair (.slice (.leaf 3)) (.slice (.leaf 3))),.slice (.leaf 3)],[.slice (.leaf 3)],fun p=>Z4f p.1 p.2⟩)
theorem Zpo : KQ Zvm := Zh (Zv (C := cf0 [Zrg, ZVg] [] [Zyh] [((59, "Add"), 203), ((59, "Mul"), 206)]) (.n (.n (.f (.n (.f (.l [1, 5, 15, 16] [] [.s 17 (.dat (.int .i64)), .l (.sl 5) (.own 59 (.leaf 3))] 0 [5] [] [.l (.sl 5) (.own 59 (.leaf 3))] (.f (.n (.n (.f (.f (.n (.n (.f (.l [1, 5, 6, 15, 16, 17, 22, 23] [] [.s 24 (.dat (.int .i64)), .l (.sl 5) (.own 59 (.leaf 3))] 2 [1, 5, 15, 16, 17] [] [.l (.sl 5) (.own 59 (.leaf 3))] .no))))))))))))))) Tryz.func50 [] (fun _ => by kernel_rfl) ⟨ZTh, ZAh, tr⟩ ⟨Zkk, tr⟩ ⟨ZCj, Z1h, tr⟩)
end Go.Eng
set_option maxRecDepth 100000
set_option maxHeartbeats 4000000
namespace Go.Eng
open Go.Proofs Go.RowKit
noncomputable def Zel:FuncId×Con:=(47,⟨[.pair (.slice (.slice (.leaf 3))) (.pair (.slice (.leaf 3)) (.slice (.leaf 3))),.slice (.leaf 3)],[.bool],fun p=>Zoi p.1 p.2⟩)
theorem ZLr:KQ Zel:=Zh (Zv (C:=cf0 [ZGj,Zvm,Zmk] [] [] []) (.n (.f (.j [] [] [.s 4 (.dat .bool)] .no))) Tryz.func47 [] (fun _=>by kernel_rfl) ⟨ZWm,Zpo,ZKl,tr⟩)
end Go.Eng
set_option maxRecDepth 100000
set_option maxHeartbeats 4000000
namespace Go.Eng
open Go.Proofs Go.RowKit
noncomputable def Z9o:FuncId×Con:=(210,⟨[.leaf 3,.leaf 3],[.bool],fun p=>Zog p.1 p.2⟩)
theorem qsame_k:KQ Z9o:=Zh (Zx (C:=cf0 [ZSj] [] [] []) (.n (.f (.j [] [] [.s 4 (.dat .bool)] .no))) Tryz.func210 [] (fun v vals x z ha hz=>.trans (by kernel_rfl) (ZDv hz)) ⟨cmp_k,tr⟩)
end Go.Eng
set_option maxRecDepth 100000
set_option maxHeartbeats 4000000
namespace Go.Eng
open Go.Proofs Go.RowKit
noncomputable def Zan:FuncId×Con:=(14,⟨[.pair (.slice (.slice (.leaf 3))) (.pair (.slice (.leaf 3)) (.slice (.leaf 3))),.pair (.int .i64) (.pair (.leaf 3) (.pair (.slice (.leaf 3)) (.pair (.slice (.leaf 3)) (.slice (.leaf 3)))))],[.bool],fun p=>Z6e p.1 p.2⟩)
theorem Zro : KQ Zan := Zh (Zv (C := cf0 [ZAf, Zqg, Z3l, Zel, ZYh, ZGj, Zvm, Zmk, Zcm, Z9o, ZPf] [] [Zyh] [((59, "Same"), 210), ((59, "Sign"), 211), ((59, "Zero"), 25)]) (.n (.n (.two (.j [2, 3] [] [.s 5 (.dat .bool)] .no) (.f (.n (.f (.n (.two (.f (.j [] [] [.s 4 (.dat .bool)] .no)) (.n (.two (.f (.j [] [] [.s 4 (.dat .bool)] .no)) (.n (.f (.two (.f (.j [2, 3] [] [.s 135 (.dat .bool)] .no)) (.f (.j [] [] [.s 4 (.dat .bool)] .no))))))))))))))) Tryz.func14 [] (fun _ => by kernel_rfl) ⟨Zhg, Zci, Z6p, ZLr, ZPj, ZWm, Zpo, ZKl, ZJq, qsame_k, Z3g, tr⟩ ⟨Zkk, tr⟩ ⟨ZYu, Zbi, ZIj, tr⟩)
end Go.Eng
namespace Go.Eng
open Go.Proofs Go.RowKit
set_option maxRecDepth 100000
theorem Zwt:Elem Tryz.prog 31 59 (ZW).n 56 (Value.agg #[Value.bool false,Value.slice none 0 0,Value.slice none 0 0]):=⟨Tryz.underlying31,by kernel_rfl,rfl,by decide⟩
noncomputable def Zjh:FuncId×ConO:=(71,⟨[.slice (.leaf 3)],59,.leaf 3,fun p=>Zwf 56 p⟩)
theorem Zjn:Zre Tryz.prog Zjh.1 Zjh.2:=fun w v vals x z hv ha hz=>by
 obtain ⟨cs,rfl,p0⟩:=ha
 have hz:Zwf 56 (show List Rat from x)=some z:=hz
 obtain ⟨hb,rfl⟩:=ZHt hz
 obtain ⟨q,n,c,rfl⟩:=Zgf (show (Zl ZW).rel v cs z from p0)
 refine ⟨fun _ _=>by kernel_rfl,?_⟩
 have hn:n=(show List Rat from z).length:=by obtain ⟨_,_,e,_⟩:=p0;cases e;rfl
 refine Zpk (K:=8) (args:=[.slice q n c]) hv Tryz.func71 rfl rfl zl fun fa hS=>?_
 refine sr ?_
 refine mw hS rfl fun fa hS=>?_
 refine oe ?_
 refine wp_seq_k fun N1 hN1=>?_
 refine sr ?_
 refine mv hS rfl fun fa hS=>?_
 refine ov hS rfl (ZUv hS Tryz.underlying31 rfl rfl) fun fa hS=>?_
 refine oe ?_
 cases q with
 | none =>
  refine Zgb hS rfl rfl ?_
  have hx:(show List Rat from z)=[]:=by
   obtain ⟨q',c',e,_,_,h3⟩:=p0
   cases e
   rcases h3 with h3 | ⟨_,_,_,_,_,h4,_⟩
   ·exact h3
   ·cases h4
  have hx0:n=0:=by rw [hn,hx];rfl
  refine sr ?_;refine mw hS rfl fun fa hS=>?_;refine oe ?_;refine wp_ret ?_;refine Zah ?_;have hS2:=hS.nilLoc 59 (ZW).n;have:=Z7m (P:=Tryz.prog) (A:=ZW) hS2 (i:=0) (ob:=none) (n:=0) (cap:=0) (cs:=[]) rfl (ZFc (fn:=Tryz.f71) (r:=.tmp 2) rfl (ZMa (t:=2) (y:=.slice (mkA none) 0 0) hS2 rfl)) (l:=([]:List Rat)) Z2c rfl;rw [hx];exact this
 | some ad =>
  refine Zwa hS rfl rfl ?_;refine wp_skip ?_;refine Zp (hN1 _ _ ?_);refine sr ?_;obtain ⟨b,wo,hrun,hS⟩:=Zoy Zwt hS;refine Zkc wn rfl zl hrun hS fun fa hS=>?_;refine mv hS rfl fun fa hS=>?_;obtain ⟨b',cap',cs2,wo,hr,hS',hrel⟩:=Znf (ty:=31) (A:=ZW) Zwt hS (i:=0) rfl (Rep.mono (Zl ZW) hS.vst.le p0) (n':=n) (by omega) (by rw [hn];exact hb) (by decide);refine Zkc wn rfl zl (ZVd hS rfl rfl hr) hS' fun fa hS=>?_;refine mw hS rfl fun fa hS=>?_;refine oe ?_;refine wp_ret ?_;exact Z7m hS (i:=0) rfl (ZFc rfl (ZMa hS rfl)) hrel hn
end Go.Eng
set_option maxRecDepth 100000
set_option maxHeartbeats 4000000
namespace Go.Eng
open Go.Proofs Go.RowKit
noncomputable def Zlt:FuncId×ConM:=(81,⟨[.slice (.slice (.leaf 3))],31,59,.leaf 3,fun p=>Z4n p⟩)
theorem ZNu:KW Zlt:=conm_z (C:=cf0 [] [8] [Zjh] []) (.n (.n (.f (.n (.f (.l [3,9,10] [] [.s 11 (.dat (.int .i64)),.l (.sl 3) (.mat 31 59 (.leaf 3))] 0 [3] [] [.l (.sl 3) (.mat 31 59 (.leaf 3))] .no)))))) Tryz.func81 [] (fun _=>by kernel_rfl) tr ⟨Zjn,tr⟩
end Go.Eng
set_option maxRecDepth 100000
set_option maxHeartbeats 4000000
namespace Go.Eng
open Go.Proofs Go.RowKit
noncomputable def ZYo:FuncId×Con:=(111,⟨[.ptr (.pair (.slice (.slice (.leaf 3))) (.pair (.slice (.leaf 3)) (.pair (.slice (.leaf 3)) (.pair (.leaf 3) (.pair (.slice (.int .i64)) (.slice (.int .i64))))))),.int .i64],[.slice (.leaf 3)],fun p=>Zml p.1 p.2⟩)
theorem ZSw:KQ ZYo:=Zh (Zv (C:=cf0 [] [] [Zyh] []) (.n (.n (.f (.n (.f (.l [0,1,5,13,14] [] [.s 15 (.dat (.int .i64)),.l (.sl 5) (.own 59 (.leaf 3))] 0 [5] [] [.l (.sl 5) (.own 59 (.leaf 3))] (.f (.n (.n (.f (.f (.n (.n (.j [0,1,5,13,14,15] [] [.l (.sl 5) (.own 59 (.leaf 3))] .no)))))))))))))) Tryz.func111 [] (fun _=>by kernel_rfl) tr ⟨Zkk,tr⟩)
end Go.Eng
set_option maxRecDepth 100000
set_option maxHeartbeats 4000000
namespace Go.Eng
open Go.Proofs Go.RowKit
noncomputable def ZWs:FuncId×Con:=(112,⟨[.ptr (.pair (.slice (.slice (.leaf 3))) (.pair (.slice (.leaf 3)) (.pair (.slice (.leaf 3)) (.pair (.leaf 3) (.pair (.slice (.int .i64)) (.slice (.int .i64))))))),.int .i64,.int .i64],[.slice (.leaf 3)],fun p=>Zop p.1 p.2.1 p.2.2⟩)
theorem Zqw : KQ ZWs := Zh (Zv (C := cf0 [ZKe] [] [Zyh] [((59, "Neg"), 208)]) (.n (.n (.f (.n (.f (.l [0, 1, 2, 7, 15, 16] [] [.s 17 (.dat (.int .i64)), .l (.sl 7) (.own 59 (.leaf 3))] 0 [7] [] [.l (.sl 7) (.own 59 (.leaf 3))] (.f (.n (.n (.f (.f (.n (.two (.j [0, 1, 2, 7, 8, 9, 15, 16, 17] [] [.s 31 (.dat .bool)] .no) (.j [0, 1, 2, 7, 15, 16, 17] [] [.l (.sl 7) (.own 59 (.leaf 3))] .no)))))))))))))) Tryz.func112 [] (fun _ => by kernel_rfl) ⟨Zcf, tr⟩ ⟨Zkk, tr⟩ ⟨Z8f, tr⟩)
end Go.Eng
set_option maxRecDepth 100000
set_option maxHeartbeats 4000000
namespace Go.Eng
open Go.Proofs Go.RowKit
noncomputable def Zfj:FuncId×Con:=(205,⟨[.leaf 3,.leaf 3],[.leaf 3,.int .i64],fun p=>Zug p.1 p.2⟩)
theorem ZWn:KQ Zfj:=Zh (Zx (C:=cf0 [ZAf,Zli,Z1e,Z1j,ZZm,ZRg] [] [] []) (.n (.n (.f (.j [2,3,4] [] [.s 6 (.box 57 (.dat (.leaf 2)))] .no)))) Tryz.func205 [] (fun v vals x z ha hz=>.trans (by kernel_rfl) (Zcy hz)) ⟨Zhg,Zdk,Zzg,Zvn,Zgr,ZMh,tr⟩)
end Go.Eng
set_option maxRecDepth 100000
set_option maxHeartbeats 4000000
namespace Go.Eng
open Go.Proofs Go.RowKit
noncomputable def Z9k:FuncId×ConB:=(138,⟨176,(.agg (.cons (.mat 31 59 (.leaf 3)) (.cons (.own 59 (.leaf 3)) (.cons (.own 59 (.leaf 3)) (.cons (.dat (.leaf 3)) (.cons (.own 3 (.int .i64)) (.one (.own 3 (.int .i64))))))))),[.int .i64,.int .i64],[],fun z x=>ZXi z x.1 x.2⟩)
theorem Zuq : KB Z9k := Zpg (C := cf0 [ZAf, ZDd, Zrg, Zfj, ZVg, ZKe, Zhh] [] [] [((59, "Add"), 203), ((59, "Div"), 205), ((59, "Mul"), 206), ((59, "Neg"), 208), ((59, "Sub"), 212), ((59, "Zero"), 25)]) (.n (.n (.two (.n (.f (.l [0, 1, 2, 7, 37] [] [.s 38 (.dat (.int .i64)), .l (.sl 20) (.mat 31 59 (.leaf 3))] 0 [0, 1, 2, 7] [] [.l (.sl 20) (.mat 31 59 (.leaf 3))] .no))) (.n (.n (.f (.n (.f (.l [0, 1, 2, 94] [] [.s 95 (.dat (.int .i64)), .l (.sl 67) (.mat 31 59 (.leaf 3)), .l (.sl 77) (.own 59 (.leaf 3))] 2 [0, 1, 2] [] [.l (.sl 67) (.mat 31 59 (.leaf 3)), .l (.sl 77) (.own 59 (.leaf 3))] (.f (.n (.n (.f (.j [0, 1, 2, 94, 95] [] [.l (.fld (.sl 0) 0) (.mat 31 59 (.leaf 3)), .l (.fld (.sl 0) 1) (.own 59 (.leaf 3))] (.f (.n (.f (.f (.j [0, 1, 2, 10, 94, 95] [] [.s 114 (.dat .bool)] .no))))))))))))))))))) Tryz.func138 [(169, Tryz.f169, .sel 1 (.n (.f (.n (.f (.l [0, 1, 2, 3, 8, 15] [] [.s 16 (.dat (.int .i64)), .l (.fld (.sl 0) 0) (.agg (.mat 31 59 (.leaf 3)))] 0 [0, 1, 2, 3, 8] [] [.l (.fld (.sl 0) 0) (.agg (.mat 31 59 (.leaf 3)))] .no))))) (.n (.f (.n (.f (.l [0, 1, 2, 3, 8, 15] [] [.s 16 (.dat (.int .i64)), .l (.sl 1) (.own 59 (.leaf 3))] 0 [0, 1, 2, 3, 8] [] [.l (.sl 1) (.own 59 (.leaf 3))] .no))))))] (fun _ _ => by kernel_rfl) ⟨Zhg, Zte, ZTh, ZWn, ZAh, Zcf, Z5j, tr⟩ tr ⟨ZCj, Zjl, Z1h, Z8f, Zql, ZIj, tr⟩ ⟨⟨Tryz.func169, fun _ _ => by kernel_rfl⟩, tr⟩
end Go.Eng
set_option maxRecDepth 100000
set_option maxHeartbeats 4000000
namespace Go.Eng
open Go.Proofs Go.RowKit
noncomputable def Zhs:FuncId×ConB:=(142,⟨176,(.agg (.cons (.mat 31 59 (.leaf 3)) (.cons (.own 59 (.leaf 3)) (.cons (.own 59 (.leaf 3)) (.cons (.dat (.leaf 3)) (.cons (.own 3 (.int .i64)) (.one (.own 3 (.int .i64))))))))),[],[.int .i64],fun z x=>ZDs z⟩)
theorem ZMv : KB Zhs := Zpg (C := cf0 [ZPf] [] [] [((59, "Sign"), 211)]) (.n (.n (.f (.n (.f (.l [0, 9, 10] [] [.s 3 (.dat (.int .i64)), .s 11 (.dat (.int .i64))] 0 [] [] [.s 3 (.dat (.int .i64))] (.f (.n (.n (.f (.f (.n (.two (.j [0, 3, 4, 9, 10, 11] [] [.s 40 (.dat .bool)] .no) (.j [0, 9, 10, 11] [] [.s 3 (.dat (.int .i64))] .no)))))))))))))) Tryz.func142 [] (fun _ _ => by kernel_rfl) ⟨Z3g, tr⟩ tr ⟨Zbi, tr⟩
end Go.Eng
set_option maxRecDepth 100000
set_option maxHeartbeats 4000000
namespace Go.Eng
open Go.Proofs Go.RowKit
noncomputable def Zet:FuncId×ConB:=(143,⟨176,(.agg (.cons (.mat 31 59 (.leaf 3)) (.cons (.own 59 (.leaf 3)) (.cons (.own 59 (.leaf 3)) (.cons (.dat (.leaf 3)) (.cons (.own 3 (.int .i64)) (.one (.own 3 (.int .i64))))))))),[.int .i64,.int .i64],[.int .i64],fun z x=>Znq z x.1 x.2⟩)
theorem ZIu : KB Zet := Zpg (C := cf0 [Z3j, Zfj, ZPf] [] [] [((59, "Cmp"), 204), ((59, "Div"), 205), ((59, "Sign"), 211)]) (.n (.n (.n (.f (.n (.f (.l [0, 1, 2, 8, 17] [] [.s 7 (.dat (.int .i64)), .s 18 (.dat (.int .i64)), .l (.sl 8) (.box 59 (.dat (.leaf 3)))] 0 [] [] [.s 7 (.dat (.int .i64))] (.f (.n (.n (.f (.j [0, 1, 2, 8, 17, 18] [] [.s 7 (.dat (.int .i64)), .l (.sl 8) (.box 59 (.dat (.leaf 3)))] (.f (.n (.n (.n (.n (.two (.n (.j [0, 1, 2, 7, 8, 9, 10, 17, 18] [] [.s 12 (.dat (.int .i64))] .no)) (.two (.j [0, 1, 2, 7, 8, 9, 10, 17, 18] [] [.s 110 (.dat .bool)] .no) (.j [0, 1, 2, 8, 17, 18] [] [.s 7 (.dat (.int .i64)), .l (.sl 8) (.box 59 (.dat (.leaf 3)))] .no)))))))))))))))))))) Tryz.func143 [] (fun _ _ => by kernel_rfl) ⟨Zln, ZWn, Z3g, tr⟩ tr ⟨Zxm, Zjl, Zbi, tr⟩
end Go.Eng
set_option maxRecDepth 100000
set_option maxHeartbeats 4000000
namespace Go.Eng
open Go.Proofs Go.RowKit
noncomputable def ZJn:FuncId×ConB:=(110,⟨176,(.agg (.cons (.mat 31 59 (.leaf 3)) (.cons (.own 59 (.leaf 3)) (.cons (.own 59 (.leaf 3)) (.cons (.dat (.leaf 3)) (.cons (.own 3 (.int .i64)) (.one (.own 3 (.int .i64))))))))),[.int .i64],[.int .i64],fun z x=>ZQk z x⟩)
theorem Zxq:KB ZJn:=Zpg (C:=cf1 [] [] [] [] [] [Z9k,Zhs,Zet] []) (.n (.f (.cut ⟨⟨[0,1],[.fld (.sl 0) 0,.fld (.sl 0) 1,.fld (.sl 0) 2,.fld (.sl 0) 6,.fld (.sl 0) 7],[.l (.sl 0) (.box 176 (.agg (.cons (.mat 31 59 (.leaf 3)) (.cons (.own 59 (.leaf 3)) (.cons (.own 59 (.leaf 3)) (.cons (.dat (.leaf 3)) (.cons (.own 3 (.int .i64)) (.one (.own 3 (.int .i64))))))))))]⟩,[(.ret,⟨[],[.fld (.sl 0) 0,.fld (.sl 0) 1,.fld (.sl 0) 2,.fld (.sl 0) 6,.fld (.sl 0) 7],[.s 1000 (.dat (.int .i64)),.l (.sl 0) (.box 176 (.agg (.cons (.mat 31 59 (.leaf 3)) (.cons (.own 59 (.leaf 3)) (.cons (.own 59 (.leaf 3)) (.cons (.dat (.leaf 3)) (.cons (.own 3 (.int .i64)) (.one (.own 3 (.int .i64))))))))))]⟩)]⟩ .no))) Tryz.func110 [] (fun _ _=>by kernel_rfl) tr tr tr tr tr ⟨Zuq,ZMv,ZIu,tr⟩
end Go.Eng
set_option maxRecDepth 100000
set_option maxHeartbeats 4000000
namespace Go.Eng
open Go.Proofs Go.RowKit
noncomputable def ZTs:FuncId×ConB:=(112,⟨176,(.agg (.cons (.mat 31 59 (.leaf 3)) (.cons (.own 59 (.leaf 3)) (.cons (.own 59 (.leaf 3)) (.cons (.dat (.leaf 3)) (.cons (.own 3 (.int .i64)) (.one (.own 3 (.int .i64))))))))),[.int .i64,.int .i64],[.slice (.leaf 3)],fun z x=>ZBt z x.1 x.2⟩)
theorem Zrw : KB ZTs := Zpg (C := cf0 [ZDd, ZKe] [] [Zqf] [((59, "Neg"), 208)]) (.n (.n (.f (.n (.f (.l [0, 1, 2, 7, 15, 16] [] [.s 17 (.dat (.int .i64)), .l (.sl 7) (.own 59 (.leaf 3))] 0 [7] [] [.l (.sl 7) (.own 59 (.leaf 3))] (.f (.n (.n (.f (.f (.n (.two (.j [0, 1, 2, 7, 8, 9, 15, 16, 17] [] [.s 31 (.dat .bool)] .no) (.j [0, 1, 2, 7, 15, 16, 17] [] [.l (.sl 7) (.own 59 (.leaf 3))] .no)))))))))))))) Tryz.func112 [(53, Tryz.f53, .no)] (fun _ _ => by kernel_rfl) ⟨Zte, Zcf, tr⟩ ⟨Zsi, tr⟩ ⟨Z8f, tr⟩ ⟨⟨Tryz.func53, fun _ _ => by kernel_rfl⟩, tr⟩
end Go.Eng
namespace Go.Eng
open Go.RowKit
section
variable {P:Program} {K:Nat} {w0:Base} {v0:Zb} {σ:List (Nat×Value)} {ℓ:List Loc} {v:Zb} {a:Act} {w:World}
variable {d:Option Nat} {ty:TypeId} {pos:String} {aft:Array Edge} {g:Option (Nat×Bool)}
theorem ZAp (hS:St K w0 v0 σ ℓ v a w) {t e:TypeId} {sz b n cap p q m:Nat} {x lo hi mx:Operand} {k k2 k3:IntKind} (ht:Zlb P t e sz) (e1:ev σ x=some (.slice (some ⟨b,0,none⟩) n cap)) (e2:ev σ lo=some (.int k (p:Int))) (e3:ev σ hi=some (.int k2 (q:Int))) (e4:ev σ mx=some (.int k3 (m:Int))) (h1:p≤q) (h2:q≤m) (h3:m≤cap) :
  ∃ y,(execOp a.eval ⟨d,.slice t x (some lo) (some hi) (some mx),ty,pos,aft,g⟩).run P w = .ok (.value y) w:=by
 have h4:(0:Int)≤(p:Int)∧(p:Int)≤(q:Int):=by omega
 have h5:(0:Int)≤(q:Int)∧(q:Int)≤(m:Int):=by omega
 have h6:(0:Int)≤(m:Int)∧(m:Int)≤(cap:Int):=by omega
 exact ⟨.slice (if m=p then some ⟨b,0,none⟩ else some (Addr.add ⟨b,0,none⟩ (p*sz))) (q-p) (m-p),by simp [execOp,Instr.sliceAt,Instr.slice,Instr.sliceBounds,Instr.sliceBound,asIntOf,hS.eval e1,hS.eval e2,hS.eval e3,hS.eval e4,ht.1,ht.2,h1,h2,h3,h4,h5,h6]⟩
theorem ZJo (hS:St K w0 v0 σ ℓ v a w) {t e:TypeId} {sz b n cap p q:Nat} {x lo hi:Operand} {k k2:IntKind} (ht:Zlb P t e sz) (e1:ev σ x=some (.slice (some ⟨b,0,none⟩) n cap)) (e2:ev σ lo=some (.int k (p:Int))) (e3:ev σ hi=some (.int k2 (q:Int))) (h1:p≤q) (h2:q≤cap) (hc:p<cap) :
  (execOp a.eval ⟨d,.slice t x (some lo) (some hi) none,ty,pos,aft,g⟩).run P w = .ok (.value (.slice (some ⟨b,p*sz,none⟩) (q-p) (cap-p))) w:=by
 have h4:(0:Int)≤(p:Int)∧(p:Int)≤(q:Int):=by omega
 have h5:(0:Int)≤(q:Int)∧(q:Int)≤(cap:Int):=by omega
 have h6:¬ cap=p:=by omega
 simp [execOp,Instr.sliceAt,Instr.slice,Instr.sliceBounds,Instr.sliceBound,asIntOf,hS.eval e1,hS.eval e2,hS.eval e3,ht.1,ht.2,h1,h2,h4,h5,h6,Zga]
theorem Z3r {t e ty:TypeId} {sz bytes:Nat} {z:Value} (E:Elem P t e sz bytes z) (hS:St K w0 v0 σ ℓ v a w) {i n cap b:Nat} {cs:List Value} (hi:ℓ[i]? = some (.own (some b) e sz n cap cs))
  {q m c:Nat} {ad:Addr} {news:List Value} (hl:news.length=m*sz) (hnews:∀ j u,news[j]? = some u→w.cell? (ad.add j)=some u) (hp:news.all plain=true) (hq:q+m≤n) :
  ∃ w',(Builtin.append_ #[t,t] ty #[.slice (some ⟨b,0,none⟩) q cap,.slice (some ad) m c]).run P w = .ok (.slice (some ⟨b,0,none⟩) (q+m) cap) w' ∧
   St K w0 v0 σ (ℓ.set i (.own (some b) e sz n cap (cs.take (q*sz)++news++cs.drop (q*sz+news.length)))) v a w':=by
 obtain ⟨inf,hinf,hz,hs,hby⟩:=info_parts E.info;subst hs;obtain ⟨hcl,cur,hg,hnc,hcx,hcs,htake⟩:=(hS.loc _ (List.mem_of_getElem? hi)).1;have h1:q*inf.size+news.length≤n*inf.size:=by rw [hl,← Nat.add_mul];exact Nat.mul_le_mul_right _ hq
 have h2:n*inf.size≤cap*inf.size:=Nat.mul_le_mul_right _ hnc;have hcl2:cur.toList.length=cap*inf.size:=by simpa using hcs
 have hr:=run_append_room (P:=P) w t ty e inf E.ty hinf b q cap cur hg ad m c news hl hnews (ZBk hp) (by omega) (by omega);refine ⟨_,hr,hS.setRow hi rfl rfl ⟨?_,_,setRow_heap w b cur _ e _ hg,hnc,hcx,?_,?_⟩⟩
 ·simp;omega
 ·simp;omega
 ·show List.take (n*inf.size) (_++_++_)=_;rw [ZIk _ _ _ _ h1 (by omega),htake]
theorem Zjr {t e ty:TypeId} {sz bytes:Nat} {z:Value} (E:Elem P t e sz bytes z) (hS:St K w0 v0 σ ℓ v a w) {i n cap b:Nat} {cs:List Value} (hi:ℓ[i]? = some (.own (some b) e sz n cap cs)) {p c:Nat} (hp:p+1≤n) (hz1:∀ x ∈ (Builtin.zeroCells z.cells 1).toList,x.oneCell'=true) :
  ∃ w' zc,zc.length=sz∧(∀ ty,(Builtin.clear_ #[t] ty #[.slice (some ⟨b,p*sz,none⟩) 1 c]).run P w = .ok (.tuple #[]) w') ∧
   St K w0 v0 σ (ℓ.set i (.own (some b) e sz n cap (cs.take (p*sz)++zc++cs.drop (p*sz+zc.length)))) v a w':=by
 obtain ⟨inf,hinf,hz,hs,hby⟩:=info_parts E.info;obtain ⟨hcl,cur,hg,hnc,hcx,hcs,htake⟩:=(hS.loc _ (List.mem_of_getElem? hi)).1;have hzl:(Builtin.zeroCells z.cells 1).toList.length=sz:=by
  have:=size_zeroCells z.cells 1;rw [E.cells] at this
  simpa using this
 have h1:p*sz+sz≤n*sz:=by
  have:=Nat.mul_le_mul_right sz hp;rw [Nat.add_mul,Nat.one_mul] at this;exact this
 have h2:n*sz≤cap*sz:=Nat.mul_le_mul_right _ hnc;have hcl2:cur.toList.length=cap*sz:=by simpa using hcs
 have hst:=run_storeCells_at P b (p*sz) e (Builtin.zeroCells z.cells 1).toList 0 cur w hg (by rw [hzl];omega) hz1;have hzv:∀ w:World,(zeroValue e).run P w = .ok z w:=fun w=>by simp [zeroValue,typeInfo,hinf,hz]
 refine ⟨_,(Builtin.zeroCells z.cells 1).toList,hzl,fun ty=>?_,hS.setRow hi rfl rfl (c:=(cur.toList.take (p*sz)++(Builtin.zeroCells z.cells 1).toList++cur.toList.drop (p*sz+(Builtin.zeroCells z.cells 1).toList.length)).toArray) ⟨?_,_,setRow_heap w b cur _ e _ hg,hnc,hcx,?_,?_⟩⟩
 ·simp at hst;simp [Builtin.clear_,run_underlying E.ty,hzv,hst]
 ·simp at hzl ⊢;omega
 ·simp at hzl ⊢;omega
 ·show List.take (n*sz) (_++_++_)=_;rw [ZIk _ _ _ _ (by rw [hzl];exact h1) (by omega),htake]
theorem Z5q (hS:St K w0 v0 σ ℓ v a w) {t:TypeId} {x:Operand} {p r:Value} {w':World} (e:ev σ x=some p) (h:(Builtin.clear_ #[t] ty #[p]).run P w = .ok r w') :
  (execOp a.eval ⟨d,.call ⟨.builtin .clear,#[x],#[t]⟩,ty,pos,aft,g⟩).run P w = .ok (.value r) w':=by
 simp [execOp,resolve,invoke,builtin,hS.eval e,h]
theorem Zdt {ops:Array Oper} {Q:Exit→Act→World→Prop} {rest:List Oper} {o:Oper} {x:Value} {w':World} (hw:Region.wanted o (yielded ops a.tmps)=true) (hd:o.dst=none) (hrun:(execOp a.eval o).run P w = .ok (.value x) w') (h:wpList P ops Q rest a w'):wpList P ops Q (o :: rest) a w :=
 Zuc hw (ZQe hrun (by rw [hd];exact h))
theorem St.narrow (h:St K w0 v0 σ ℓ v a w) {i b n m cap sz:Nat} {T:TypeId} {cs:List Value} (hi:ℓ[i]? = some (.own (some b) T sz n cap cs)) (hm:m≤n):St K w0 v0 σ (ℓ.set i (.own (some b) T sz m cap (cs.take (m*sz)))) v a w:=by
 obtain ⟨hcl,cur,hg,hnc,hcx,hcs,htake⟩:=(h.loc _ (List.mem_of_getElem? hi)).1;have h1:m*sz≤n*sz:=Nat.mul_le_mul_right _ hm;refine h.setSame hi rfl ⟨?_,cur,hg,by omega,hcx,hcs,?_⟩
 ·rw [List.length_take];omega
 ·rw [← htake,List.take_take,Nat.min_eq_left h1]
end
theorem Z0q {cs zc:List Value} {sz i n:Nat} (hc:cs.length=n*sz) (hi:i<n) (hz:zc.length=sz) :
  (((cs.take (i*sz)++cs.drop ((i+1)*sz)++cs.drop (i*sz+(cs.drop ((i+1)*sz)).length)).take ((n-1)*sz)++zc++(cs.take (i*sz)++cs.drop ((i+1)*sz)++cs.drop (i*sz+(cs.drop ((i+1)*sz)).length)).drop ((n-1)*sz+zc.length)).take ((n-1)*sz))=cs.take (i*sz)++cs.drop ((i+1)*sz):=by
 have h1:i*sz≤n*sz:=Nat.mul_le_mul_right _ (by omega);have h2:(i+1)*sz≤n*sz:=Nat.mul_le_mul_right _ (by omega);have h3:(i+1)*sz=i*sz+sz:=by rw [Nat.add_mul,Nat.one_mul]
 have h4:(n-1)*sz=n*sz-sz:=by rw [Nat.sub_mul,Nat.one_mul]
 have hl:(cs.take (i*sz)++cs.drop ((i+1)*sz)).length=(n-1)*sz:=by
  rw [List.length_append,List.length_take,List.length_drop];omega
 rw [List.append_assoc (List.take _ _) zc,List.take_append_of_le_length (by rw [List.length_take,List.length_append,hl];omega),List.take_take,Nat.min_self,List.take_append_of_le_length (by rw [hl];omega),List.take_of_length_le (by rw [hl];omega)]
end Go.Eng
namespace Go.Eng
open Go.Proofs Go.RowKit
set_option maxRecDepth 100000
theorem Zcp:Elem Tryz.prog 100 3 ((Zd .i64)).n 8 (Value.int IntKind.i64 0):=⟨Tryz.underlying100,by kernel_rfl,rfl,by decide⟩
theorem ZJf:Zlb Tryz.prog 100 3 ((Zd .i64)).n:=⟨fun _=>by kernel_rfl,fun _=>by kernel_rfl⟩
theorem Zgu:Tryz.prog.follows .mixedOrders=true:=by kernel_rfl
noncomputable def Zcn:FuncId×ConD:=(140,⟨3,.int .i64,fun l i j=>ZRe l i j⟩)
theorem Zjy:ZZg Tryz.prog Zcn.1 Zcn.2:=fun w v ob n cap cs l i0 j0 z hv hh hnv hA hn hi hj hz=>by
 have hz:ZRe (show List Int from l) i0 j0=some z:=hz
 obtain ⟨i,rfl,rfl,hin,rfl⟩:=Zkt hz
 have hA:((Zd .i64)).rels v cs (show List Int from l):=hA
 have hin:i<n:=by rw [hn];exact hin
 have hcs:cs.length=n*((Zd .i64)).n:=by rw [hn];exact ZSc hA
 refine ⟨fun _ _=>by kernel_rfl,?_⟩
 refine Zkr (K:=33) (args:=[.slice (mkA ob) n cap,.int .i64 (i:Int),.int .i64 ((i+1:Nat):Int)]) hv hh hnv Tryz.func140 rfl rfl zl fun fa hS=>?_
 obtain ⟨b,rfl⟩:=ZRc hS (j:=0) rfl (by omega)
 obtain ⟨_,cur,hg,hnc,hcx,hcu,htk⟩:=(hS.loc _ (List.mem_of_getElem? (i:=0) rfl)).1
 unfold maxLen at hcx
 refine sr ?_
 refine mw hS rfl fun fa hS=>?_
 refine oe ?_
 refine sr ?_
 refine mv hS rfl fun fa hS=>?_
 refine mv hS rfl fun fa hS=>?_
 refine mv hS rfl fun fa hS=>?_
 refine mv hS rfl fun fa hS=>?_
 refine ov hS rfl (Zzb hS rfl rfl ZJf) fun fa hS=>?_
 have h3 := @ZAp _ _ _ _ _ _ _ _ _ (some 13) 100 "" #[] none hS 100 3 ((Zd .i64)).n b n cap i (i + 1) n (.tmp 8) (.tmp 9) (.tmp 10) (.tmp 12) .i64 .i64 .i64 ZJf rfl rfl rfl rfl (by omega) (by omega) hnc
 obtain ⟨y3,h3⟩:=h3
 refine ov hS rfl h3 fun fa hS=>?_
 refine oe ?_
 refine wp_seq_k fun N1 hN1=>?_
 refine sr ?_
 refine mv hS rfl fun fa hS=>?_
 refine mv hS rfl fun fa hS=>?_
 refine ov hS rfl (ZA hS rfl rfl Z3f) fun fa hS=>?_
 refine oe ?_
 refine Zwa hS rfl (by simp only [beq_eq_false_iff_ne,ne_eq];omega) ?_
 refine wp_skip ?_
 refine Zp (hN1 _ _ ?_)
 refine sr ?_
 refine mv hS rfl fun fa hS=>?_
 refine ov hS rfl (Zzb hS rfl rfl ZJf) fun fa hS=>?_
 refine mw hS rfl fun fa hS=>?_
 refine oe ?_
 refine wp_seq_k fun N2 hN2=>?_
 refine ZUg (fl:=#[true,true,true,true,true,true,false,false]) Zgu (by kernel_rfl) hS ?_
 intro ops hops hF wo hS
 refine rf hops hF 0 rfl (by kernel_rfl) rfl hS (ZD hS rfl) fun fa hS=>?_
 refine rf hops hF 1 rfl (by kernel_rfl) rfl hS (ZD hS rfl) fun fa hS=>?_
 refine rf hops hF 2 rfl (by kernel_rfl) rfl hS (Z0n hS ZJf rfl rfl (by omega) (by omega)) fun fa hS=>?_
 refine rf hops hF 3 rfl (by kernel_rfl) rfl hS (ZD hS rfl) fun fa hS=>?_
 refine rf hops hF 4 rfl (by kernel_rfl) rfl hS (ZD hS rfl) fun fa hS=>?_
 obtain ⟨ad,had,hsrc⟩:∃ ad:Addr,(if cap=i+1 then mkA (some b) else (mkA (some b)).map (·.add ((i+1)*((Zd .i64)).n)))=some ad∧∀ j u,(cs.drop ((i+1)*((Zd .i64)).n))[j]? = some u→wo.cell? (ad.add j)=some u:=by
  by_cases h:cap=i+1
  ·refine ⟨⟨b,0,none⟩,by rw [if_pos h];rfl,fun j u hu=>?_⟩;have:cs.drop ((i+1)*((Zd .i64)).n)=[]:=List.drop_eq_nil_of_le (by rw [hcs];exact Nat.mul_le_mul_right _ (by omega));rw [this] at hu;simp at hu
  ·refine ⟨(⟨b,0,none⟩:Addr).add ((i+1)*((Zd .i64)).n),by rw [if_neg h];rfl,fun j u hu=>?_⟩;have:=Z4g hS (j:=0) rfl ((i+1)*((Zd .i64)).n+j) u (by rw [List.getElem?_drop] at hu;exact hu);rw [show ((⟨b,0,none⟩:Addr).add ((i+1)*((Zd .i64)).n)).add j=(⟨b,0,none⟩:Addr).add ((i+1)*((Zd .i64)).n+j) by simp only [Zga,Nat.add_assoc]];exact this
 refine rf hops hF 5 rfl (by kernel_rfl) rfl hS (ZMq hS ZJf rfl rfl (by omega)) fun fa hS=>?_;rw [had] at hS;have hdl:(cs.drop ((i+1)*((Zd .i64)).n)).length=(n-(i+1))*((Zd .i64)).n:=by rw [List.length_drop,hcs,Nat.sub_mul]
 obtain ⟨wo',hr,hS'⟩:=Z3r (t:=100) (ty:=100) Zcp hS (i:=0) rfl (q:=i) (m:=n-(i+1)) (c:=cap-(i+1)) (ad:=ad) (news:=cs.drop ((i+1)*((Zd .i64)).n)) hdl hsrc (by rw [List.all_eq_true];intro y hy;exact List.all_eq_true.1 (Zmg hA) y (List.mem_of_mem_drop hy)) (by omega);rw [show i+(n-(i+1))=n-1 by omega] at hr;refine Zue hops hF 6 (by kernel_rfl) ?_;refine Zcl [2,5,0,1,3,4] [] hops rfl (by kernel_rfl) wn rfl zl (ZXo hS rfl rfl hr) hS' fun fa hS=>?_;refine ⟨ZVb,?_⟩;refine Zue hops hF 7 (by kernel_rfl) ?_;refine nv [0,1,2,3,4,5,6] [] hops rfl (by kernel_rfl) rfl hS (Z8c hS rfl) fun fa hS=>?_;refine ⟨ZVb,?_⟩;refine Zlk hops hF (by kernel_rfl) ?_;refine Zp (hN2 _ _ ?_);refine sr ?_;refine mv hS rfl fun fa hS=>?_;refine mv hS rfl fun fa hS=>?_;refine ov hS rfl (Zzb hS rfl rfl ZJf) fun fa hS=>?_;refine mv hS rfl fun fa hS=>?_;refine ov hS rfl (ZJo hS ZJf rfl rfl rfl (by omega) (by omega) (by omega)) fun fa hS=>?_;obtain ⟨wo2,zc,hzl,hr,hS'⟩:=Zjr (t:=100) (ty:=100) Zcp hS (i:=0) rfl (p:=n-1) (c:=cap-(n-1)) (by omega) (List.all_eq_true.1 (by kernel_rfl));have hn1:n-(n-1)=1:=by omega
 rw [hn1] at hS hS';refine Zdt wn rfl (Z5q hS rfl (hr _)) ?_;refine oe ?_;have hS:=hS'.narrow (i:=0) rfl (m:=n-1) (by omega);refine sr ?_;refine mv hS rfl fun fa hS=>?_;refine mw hS rfl fun fa hS=>?_;refine oe ?_;refine wp_ret ?_;refine Z2r hS (i:=0) rfl (ZFc rfl (ZMa hS rfl)) ?_ (show n-1=(List.take i l++List.drop (i+1) l).length by rw [List.length_append,List.length_take,List.length_drop,← hn];omega);rw [Z0q hcs hin hzl];exact Zxb (ZTf i (ZI hS.vst.le hA)) (Zke (i+1) (ZI hS.vst.le hA))
set_option maxRecDepth 100000
theorem ZJr:Elem Tryz.prog 31 59 (ZW).n 56 (Value.agg #[Value.bool false,Value.slice none 0 0,Value.slice none 0 0]):=⟨Tryz.underlying31,by kernel_rfl,rfl,by decide⟩
theorem Zmf:Zlb Tryz.prog 31 59 (ZW).n:=⟨fun _=>by kernel_rfl,fun _=>by kernel_rfl⟩
theorem Zky:Tryz.prog.follows .mixedOrders=true:=by kernel_rfl
noncomputable def Zzm:FuncId×ConD:=(141,⟨59,.leaf 3,fun l i j=>ZRe l i j⟩)
theorem Z5w:ZZg Tryz.prog Zzm.1 Zzm.2:=fun w v ob n cap cs l i0 j0 z hv hh hnv hA hn hi hj hz=>by
 have hz:ZRe (show List Rat from l) i0 j0=some z:=hz
 obtain ⟨i,rfl,rfl,hin,rfl⟩:=Zkt hz
 have hA:(ZW).rels v cs (show List Rat from l):=hA
 have hin:i<n:=by rw [hn];exact hin
 have hcs:cs.length=n*(ZW).n:=by rw [hn];exact ZSc hA
 refine ⟨fun _ _=>by kernel_rfl,?_⟩
 refine Zkr (K:=33) (args:=[.slice (mkA ob) n cap,.int .i64 (i:Int),.int .i64 ((i+1:Nat):Int)]) hv hh hnv Tryz.func141 rfl rfl zl fun fa hS=>?_
 obtain ⟨b,rfl⟩:=ZRc hS (j:=0) rfl (by omega)
 obtain ⟨_,cur,hg,hnc,hcx,hcu,htk⟩:=(hS.loc _ (List.mem_of_getElem? (i:=0) rfl)).1
 unfold maxLen at hcx
 refine sr ?_
 refine mw hS rfl fun fa hS=>?_
 refine oe ?_
 refine sr ?_
 refine mv hS rfl fun fa hS=>?_
 refine mv hS rfl fun fa hS=>?_
 refine mv hS rfl fun fa hS=>?_
 refine mv hS rfl fun fa hS=>?_
 refine ov hS rfl (Zzb hS rfl rfl Zmf) fun fa hS=>?_
 have h3 := @ZAp _ _ _ _ _ _ _ _ _ (some 13) 31 "" #[] none hS 31 59 (ZW).n b n cap i (i + 1) n (.tmp 8) (.tmp 9) (.tmp 10) (.tmp 12) .i64 .i64 .i64 Zmf rfl rfl rfl rfl (by omega) (by omega) hnc
 obtain ⟨y3,h3⟩:=h3
 refine ov hS rfl h3 fun fa hS=>?_
 refine oe ?_
 refine wp_seq_k fun N1 hN1=>?_
 refine sr ?_
 refine mv hS rfl fun fa hS=>?_
 refine mv hS rfl fun fa hS=>?_
 refine ov hS rfl (ZA hS rfl rfl Z3f) fun fa hS=>?_
 refine oe ?_
 refine Zwa hS rfl (by simp only [beq_eq_false_iff_ne,ne_eq];omega) ?_
 refine wp_skip ?_
 refine Zp (hN1 _ _ ?_)
 refine sr ?_
 refine mv hS rfl fun fa hS=>?_
 refine ov hS rfl (Zzb hS rfl rfl Zmf) fun fa hS=>?_
 refine mw hS rfl fun fa hS=>?_
 refine oe ?_
 refine wp_seq_k fun N2 hN2=>?_
 refine ZUg (fl:=#[true,true,true,true,true,true,false,false]) Zky (by kernel_rfl) hS ?_
 intro ops hops hF wo hS
 refine rf hops hF 0 rfl (by kernel_rfl) rfl hS (ZD hS rfl) fun fa hS=>?_
 refine rf hops hF 1 rfl (by kernel_rfl) rfl hS (ZD hS rfl) fun fa hS=>?_
 refine rf hops hF 2 rfl (by kernel_rfl) rfl hS (Z0n hS Zmf rfl rfl (by omega) (by omega)) fun fa hS=>?_
 refine rf hops hF 3 rfl (by kernel_rfl) rfl hS (ZD hS rfl) fun fa hS=>?_
 refine rf hops hF 4 rfl (by kernel_rfl) rfl hS (ZD hS rfl) fun fa hS=>?_
 obtain ⟨ad,had,hsrc⟩:∃ ad:Addr,(if cap=i+1 then mkA (some b) else (mkA (some b)).map (·.add ((i+1)*(ZW).n)))=some ad∧∀ j u,(cs.drop ((i+1)*(ZW).n))[j]? = some u→wo.cell? (ad.add j)=some u:=by
  by_cases h:cap=i+1
  ·refine ⟨⟨b,0,none⟩,by rw [if_pos h];rfl,fun j u hu=>?_⟩;have:cs.drop ((i+1)*(ZW).n)=[]:=List.drop_eq_nil_of_le (by rw [hcs];exact Nat.mul_le_mul_right _ (by omega));rw [this] at hu;simp at hu
  ·refine ⟨(⟨b,0,none⟩:Addr).add ((i+1)*(ZW).n),by rw [if_neg h];rfl,fun j u hu=>?_⟩;have:=Z4g hS (j:=0) rfl ((i+1)*(ZW).n+j) u (by rw [List.getElem?_drop] at hu;exact hu);rw [show ((⟨b,0,none⟩:Addr).add ((i+1)*(ZW).n)).add j=(⟨b,0,none⟩:Addr).add ((i+1)*(ZW).n+j) by simp only [Zga,Nat.add_assoc]];exact this
 refine rf hops hF 5 rfl (by kernel_rfl) rfl hS (ZMq hS Zmf rfl rfl (by omega)) fun fa hS=>?_;rw [had] at hS;have hdl:(cs.drop ((i+1)*(ZW).n)).length=(n-(i+1))*(ZW).n:=by rw [List.length_drop,hcs,Nat.sub_mul]
 obtain ⟨wo',hr,hS'⟩:=Z3r (t:=31) (ty:=31) ZJr hS (i:=0) rfl (q:=i) (m:=n-(i+1)) (c:=cap-(i+1)) (ad:=ad) (news:=cs.drop ((i+1)*(ZW).n)) hdl hsrc (by rw [List.all_eq_true];intro y hy;exact List.all_eq_true.1 (Zmg hA) y (List.mem_of_mem_drop hy)) (by omega);rw [show i+(n-(i+1))=n-1 by omega] at hr;refine Zue hops hF 6 (by kernel_rfl) ?_;refine Zcl [2,5,0,1,3,4] [] hops rfl (by kernel_rfl) wn rfl zl (ZXo hS rfl rfl hr) hS' fun fa hS=>?_;refine ⟨ZVb,?_⟩;refine Zue hops hF 7 (by kernel_rfl) ?_;refine nv [0,1,2,3,4,5,6] [] hops rfl (by kernel_rfl) rfl hS (Z8c hS rfl) fun fa hS=>?_;refine ⟨ZVb,?_⟩;refine Zlk hops hF (by kernel_rfl) ?_;refine Zp (hN2 _ _ ?_);refine sr ?_;refine mv hS rfl fun fa hS=>?_;refine mv hS rfl fun fa hS=>?_;refine ov hS rfl (Zzb hS rfl rfl Zmf) fun fa hS=>?_;refine mv hS rfl fun fa hS=>?_;refine ov hS rfl (ZJo hS Zmf rfl rfl rfl (by omega) (by omega) (by omega)) fun fa hS=>?_;obtain ⟨wo2,zc,hzl,hr,hS'⟩:=Zjr (t:=31) (ty:=31) ZJr hS (i:=0) rfl (p:=n-1) (c:=cap-(n-1)) (by omega) (List.all_eq_true.1 (by kernel_rfl));have hn1:n-(n-1)=1:=by omega
 rw [hn1] at hS hS';refine Zdt wn rfl (Z5q hS rfl (hr _)) ?_;refine oe ?_;have hS:=hS'.narrow (i:=0) rfl (m:=n-1) (by omega);refine sr ?_;refine mv hS rfl fun fa hS=>?_;refine mw hS rfl fun fa hS=>?_;refine oe ?_;refine wp_ret ?_;refine Z2r hS (i:=0) rfl (ZFc rfl (ZMa hS rfl)) ?_ (show n-1=(List.take i l++List.drop (i+1) l).length by rw [List.length_append,List.length_take,List.length_drop,← hn];omega);rw [Z0q hcs hin hzl];exact Zxb (ZTf i (ZI hS.vst.le hA)) (Zke (i+1) (ZI hS.vst.le hA))
end Go.Eng
set_option maxRecDepth 100000
set_option maxHeartbeats 4000000
namespace Go.Eng
open Go.Proofs Go.RowKit
noncomputable def ZLq:FuncId×ConB:=(109,⟨176,(.agg (.cons (.mat 31 59 (.leaf 3)) (.cons (.own 59 (.leaf 3)) (.cons (.own 59 (.leaf 3)) (.cons (.dat (.leaf 3)) (.cons (.own 3 (.int .i64)) (.one (.own 3 (.int .i64))))))))),[.pair (.slice (.slice (.leaf 3))) (.pair (.slice (.leaf 3)) (.slice (.leaf 3)))],[.slice (.leaf 3),.bool],fun z x=>Zct z x⟩)
theorem ZMy : KB ZLq := Zpg (C := cf1 [ZAf, ZDd, Zrg, Z3j, ZVg, ZPf, Zhh] [100182] [Zqf] [((59, "Add"), 203), ((59, "Cmp"), 204), ((59, "Mul"), 206), ((59, "Sign"), 211), ((59, "Sub"), 212), ((59, "Zero"), 25)] [] [ZJn, ZTs, Z9k] [Zcn, Zzm]) (.n (.n (.n (.two (.n (.f (.l [0, 3, 6, 7, 8, 34, 35] [] [.s 9 (.dat (.int .i64)), .s 36 (.dat (.int .i64))] 0 [0, 3, 6, 7, 8] [] [.s 9 (.dat (.int .i64))] (.f (.n (.n (.f (.f (.n (.two (.j [0, 3, 6, 7, 8, 9, 10, 34, 35, 36] [] [.s 61 (.dat .bool)] .no) (.j [0, 3, 6, 7, 8, 34, 35, 36] [] [.s 9 (.dat (.int .i64))] .no))))))))))) (.n (.two (.n (.f (.l [0, 3, 6, 7, 8, 9, 70] [] [.s 71 (.dat (.int .i64)), .l (.sl 69) (.mat 31 59 (.leaf 3))] 2 [0, 3, 6, 7, 8, 9] [] [.l (.sl 69) (.mat 31 59 (.leaf 3))] .no))) (.n (.n (.n (.n (.n (.two (.n (.n (.j [0, 3, 8] [.fld (.sl 0) 0, .fld (.sl 0) 1, .fld (.sl 0) 2, .fld (.sl 0) 6, .fld (.sl 0) 7] [.l (.sl 0) (.box 176 (.agg (.cons (.mat 31 59 (.leaf 3)) (.cons (.own 59 (.leaf 3)) (.cons (.own 59 (.leaf 3)) (.cons (.dat (.leaf 3)) (.cons (.own 3 (.int .i64)) (.one (.own 3 (.int .i64))))))))))] .no))) (.n (.n (.two (.n (.f (.l [0, 3, 14, 167] [] [.s 168 (.dat (.int .i64)), .l (.sl 166) (.mat 31 59 (.leaf 3))] 4 [0, 3] [] [.l (.sl 166) (.mat 31 59 (.leaf 3))] .no))) (.n (.f (.n (.f (.l [0, 203, 204] [.fld (.sl 0) 0, .fld (.sl 0) 1, .fld (.sl 0) 6, .fld (.sl 0) 7, .fld (.sl 0) 2] [.s 205 (.dat (.int .i64)), .l (.sl 0) (.box 176 (.agg (.cons (.mat 31 59 (.leaf 3)) (.cons (.own 59 (.leaf 3)) (.cons (.own 59 (.leaf 3)) (.cons (.dat (.leaf 3)) (.cons (.own 3 (.int .i64)) (.one (.own 3 (.int .i64))))))))))] 6 [] [.fld (.sl 0) 0, .fld (.sl 0) 1, .fld (.sl 0) 6, .fld (.sl 0) 7, .fld (.sl 0) 2] [.l (.sl 0) (.box 176 (.agg (.cons (.mat 31 59 (.leaf 3)) (.cons (.own 59 (.leaf 3)) (.cons (.own 59 (.leaf 3)) (.cons (.dat (.leaf 3)) (.cons (.own 3 (.int .i64)) (.one (.own 3 (.int .i64))))))))))] (.f (.n (.n (.f (.j [0, 203, 204, 205] [.fld (.sl 0) 0, .fld (.sl 0) 1, .fld (.sl 0) 2, .fld (.sl 0) 6, .fld (.sl 0) 7] [.l (.sl 0) (.box 176 (.agg (.cons (.mat 31 59 (.leaf 3)) (.cons (.own 59 (.leaf 3)) (.cons (.own 59 (.leaf 3)) (.cons (.dat (.leaf 3)) (.cons (.own 3 (.int .i64)) (.one (.own 3 (.int .i64))))))))))] (.f (.n (.n (.n (.n (.n (.f (.l [0, 17, 203, 204, 205, 265, 266] [] [.s 267 (.dat (.int .i64)), .l (.fld (.sl 0) 2) (.own 59 (.leaf 3))] 8 [0, 203, 204, 205] [] [.l (.fld (.sl 0) 2) (.own 59 (.leaf 3))] .no))))))))))))))))))))))))))))))))) Tryz.func109 [(53, Tryz.f53, .no), (116, Tryz.f116, .r [] [] [.s 1000 (.dat (.int .i64))] (.n (.f (.n (.f (.cut ⟨⟨[0, 1, 7], [], [.s 8 (.dat (.int .i64))]⟩, [(.exit 0, ⟨[], [], []⟩), (.ret, ⟨[], [], [.s 1000 (.dat (.int .i64))]⟩)]⟩ .no)))))), (126, Tryz.f126, .r [] [] [.s 1000 (.dat (.int .i64))] (.n (.f (.n (.f (.cut ⟨⟨[0, 1, 7], [], [.s 8 (.dat (.int .i64))]⟩, [(.exit 0, ⟨[], [], []⟩), (.ret, ⟨[], [], [.s 1000 (.dat (.int .i64))]⟩)]⟩ .no)))))), (139, Tryz.f139, .no)] (fun _ _ => by kernel_rfl) ⟨Zhg, Zte, ZTh, Zln, ZAh, Z3g, Z5j, tr⟩ ⟨Zsi, tr⟩ ⟨ZCj, Zxm, Z1h, Zbi, Zql, ZIj, tr⟩ ⟨⟨Tryz.func53, fun _ _ => by kernel_rfl⟩, ⟨Tryz.func116, fun _ _ => by kernel_rfl⟩, ⟨Tryz.func126, fun _ _ => by kernel_rfl⟩, ⟨Tryz.func139, fun _ _ => by kernel_rfl⟩, tr⟩ tr ⟨Zxq, Zrw, Zuq, tr⟩ ⟨Zjy, Z5w, tr⟩
end Go.Eng
set_option maxRecDepth 100000
set_option maxHeartbeats 4000000
namespace Go.Eng
open Go.Proofs Go.RowKit
noncomputable def Zor:FuncId×Con:=(77,⟨[.pair (.slice (.slice (.leaf 3))) (.pair (.slice (.leaf 3)) (.slice (.leaf 3)))],[.pair (.int .i64) (.pair (.leaf 3) (.pair (.slice (.leaf 3)) (.pair (.slice (.leaf 3)) (.slice (.leaf 3)))))],fun p=>Zat p⟩)
theorem Z6v : KQ Zor := Zh (Zv (C := cf1 [ZDd, ZYo, ZWs, ZKe] [] [Zjh, Zqf] [((59, "Neg"), 208)] [Zlt] [ZLq, ZJn] []) (.n (.n (.n (.n (.n (.two (.j [2, 3, 4, 6] [] [.s 5 (.dat (.ptr (.pair (.slice (.slice (.leaf 3))) (.pair (.slice (.leaf 3)) (.pair (.slice (.leaf 3)) (.pair (.leaf 3) (.pair (.slice (.int .i64)) (.slice (.int .i64))))))))), .s 9 (.dat (.int .i64))] .no) (.n (.n (.two (.n (.n (.j [2, 3, 5, 6, 9, 10] [] [.l (.sl 10) (.own 59 (.leaf 3))] .no))) (.f (.n (.f (.l [2, 3, 5, 6, 9, 10, 69, 70] [] [.s 71 (.dat (.int .i64)), .l (.sl 10) (.own 59 (.leaf 3))] 0 [2, 3, 5, 6, 10] [] [.l (.sl 10) (.own 59 (.leaf 3))] (.f (.n (.n (.f (.f (.n (.n (.j [2, 3, 5, 6, 9, 10, 69, 70, 71] [] [.l (.sl 10) (.own 59 (.leaf 3))] .no))))))))))))))))))))) Tryz.func77 [(53, Tryz.f53, .no), (108, Tryz.f108, .n (.n (.two (.n (.f (.l [1, 3, 20] [.fld (.sl 3) 0, .fld (.sl 3) 1, .fld (.sl 3) 2] [.s 21 (.dat (.int .i64)), .l (.sl 3) (.box 176 (.agg (.cons (.mat 31 59 (.leaf 3)) (.cons (.own 59 (.leaf 3)) (.cons (.own 59 (.leaf 3)) (.cons (.dat (.leaf 3)) (.cons (.own 3 (.int .i64)) (.one (.own 3 (.int .i64))))))))))] 0 [1, 3] [.fld (.sl 3) 0, .fld (.sl 3) 1, .fld (.sl 3) 2] [.l (.sl 3) (.box 176 (.agg (.cons (.mat 31 59 (.leaf 3)) (.cons (.own 59 (.leaf 3)) (.cons (.own 59 (.leaf 3)) (.cons (.dat (.leaf 3)) (.cons (.own 3 (.int .i64)) (.one (.own 3 (.int .i64))))))))))] .no))) (.f (.n (.f (.l [1, 3, 37] [.fld (.sl 3) 0, .fld (.sl 3) 1, .fld (.sl 3) 2, .fld (.sl 3) 6, .fld (.sl 3) 7] [.s 38 (.dat (.int .i64)), .l (.sl 3) (.box 176 (.agg (.cons (.mat 31 59 (.leaf 3)) (.cons (.own 59 (.leaf 3)) (.cons (.own 59 (.leaf 3)) (.cons (.dat (.leaf 3)) (.cons (.own 3 (.int .i64)) (.one (.own 3 (.int .i64))))))))))] 2 [3] [.fld (.sl 3) 0, .fld (.sl 3) 1, .fld (.sl 3) 2, .fld (.sl 3) 6, .fld (.sl 3) 7] [.l (.sl 3) (.box 176 (.agg (.cons (.mat 31 59 (.leaf 3)) (.cons (.own 59 (.leaf 3)) (.cons (.own 59 (.leaf 3)) (.cons (.dat (.leaf 3)) (.cons (.own 3 (.int .i64)) (.one (.own 3 (.int .i64))))))))))] .no)))))))] (fun _ => by kernel_rfl) ⟨Zte, ZSw, Zqw, Zcf, tr⟩ ⟨Zjn, Zsi, tr⟩ ⟨Z8f, tr⟩ ⟨⟨Tryz.func53, fun _ _ => by kernel_rfl⟩, ⟨Tryz.func108, fun _ _ => by kernel_rfl⟩, tr⟩ ⟨ZNu, tr⟩ ⟨ZMy, Zxq, tr⟩)
end Go.Eng
set_option maxRecDepth 100000
set_option maxHeartbeats 4000000
namespace Go.Eng
open Go.Proofs Go.RowKit
noncomputable def Zrp:FuncId×Con:=(32,⟨[.pair (.slice (.slice (.leaf 3))) (.pair (.slice (.leaf 3)) (.slice (.leaf 3)))],[.pair (.int .i64) (.pair (.leaf 3) (.pair (.slice (.leaf 3)) (.pair (.slice (.leaf 3)) (.slice (.leaf 3))))),.int .i64],fun p=>Zwr p⟩)
theorem ZMt:KQ Zrp:=Zh (Zv (C:=cf0 [Zqg,Zor] [] [] []) .no Tryz.func32 [] (fun _=>by kernel_rfl) ⟨Zci,Z6v,tr⟩)
end Go.Eng
set_option maxRecDepth 100000
set_option maxHeartbeats 4000000
namespace Go.Eng
open Go.Proofs Go.RowKit
noncomputable def ZIn:FuncId×Con:=(66,⟨[.slice (.slice (.leaf 3))],[.int .i64],fun p=>ZIi p⟩)
theorem ZEr:KQ ZIn:=Zh (Zv (C:=cf0 [] [] [] []) .no Tryz.func66 [] (fun _=>by kernel_rfl))
end Go.Eng
set_option maxRecDepth 100000
set_option maxHeartbeats 4000000
namespace Go.Eng
open Go.Proofs Go.RowKit
noncomputable def ZGl:FuncId×Con:=(84,⟨[.slice (.slice (.leaf 3))],[.bool],fun p=>Zun p⟩)
theorem ZFq:KQ ZGl:=Zh (Zv (C:=cf0 [ZIn] [] [] []) (.n (.n (.f (.j [] [] [.s 2 (.dat .bool)] .no)))) Tryz.func84 [(78,Tryz.f78,.no),(113,Tryz.f113,.r [] [] [.s 1000 (.dat (.int .i64))] (.n (.f (.n (.f (.cut ⟨⟨[0,1,7],[],[.s 8 (.dat (.int .i64))]⟩,[(.exit 0,⟨[],[],[]⟩),(.ret,⟨[],[],[.s 1000 (.dat (.int .i64))]⟩)]⟩ .no)))))),(115,Tryz.f115,.no)] (fun _=>by kernel_rfl) ⟨ZEr,tr⟩ tr tr ⟨⟨Tryz.func78,fun _ _=>by kernel_rfl⟩,⟨Tryz.func113,fun _ _=>by kernel_rfl⟩,⟨Tryz.func115,fun _ _=>by kernel_rfl⟩,tr⟩)
end Go.Eng
set_option maxRecDepth 100000
set_option maxHeartbeats 4000000
namespace Go.Eng
open Go.Proofs Go.RowKit
noncomputable def ZOl:FuncId×Con:=(85,⟨[.slice (.slice (.leaf 3))],[.slice (.slice (.leaf 3)),.slice (.int .i64),.leaf 3],fun p=>ZKn p⟩)
theorem Zms : KQ ZOl := Zh (Zv (C := cf0 [ZAf, ZDd, Zfj, ZVg, ZKe, Zhh] [8] [Zjh] [((59, "Div"), 205), ((59, "Mul"), 206), ((59, "Neg"), 208), ((59, "Sub"), 212), ((59, "Zero"), 25)]) (.n (.n (.n (.n (.f (.n (.f (.l [0, 4, 6, 19] [] [.s 5 (.own 3 (.int .i64)), .s 20 (.dat (.int .i64)), .l (.sl 0) (.mat 31 59 (.leaf 3)), .l (.sl 6) (.box 59 (.dat (.leaf 3)))] 0 [0, 4, 6] [] [.s 5 (.own 3 (.int .i64)), .l (.sl 0) (.mat 31 59 (.leaf 3)), .l (.sl 6) (.box 59 (.dat (.leaf 3)))] (.f (.n (.n (.f (.j [0, 4, 6, 19, 20] [] [.s 5 (.own 3 (.int .i64)), .l (.sl 0) (.mat 31 59 (.leaf 3)), .l (.sl 6) (.box 59 (.dat (.leaf 3)))] (.f (.n (.n (.n (.two (.f (.l [0, 4, 5, 6, 7, 8, 19, 20] [] [.s 9 (.dat (.int .i64))] 2 [0, 4, 5, 6, 7, 8, 19, 20] [] [.s 9 (.dat (.int .i64))] (.f (.f (.f (.j [0, 4, 5, 6, 7, 8, 9, 19, 20] [] [.s 40 (.dat .bool)] .no)))))) (.n (.two (.n (.j [0, 4, 5, 6, 7, 8, 19, 20] [] [.l (.sl 0) (.mat 31 59 (.leaf 3)), .l (.sl 6) (.box 59 (.dat (.leaf 3)))] .no)) (.n (.n (.two (.n (.f (.l [0, 4, 5, 6, 7, 8, 10, 19, 20, 83] [] [.s 84 (.dat (.int .i64)), .l (.sl 0) (.mat 31 59 (.leaf 3))] 4 [0, 4, 5, 6, 7, 8, 19, 20] [] [.l (.sl 0) (.mat 31 59 (.leaf 3))] .no))) (.f (.n (.f (.l [0, 4, 5, 6, 7, 8, 19, 20, 108] [] [.s 109 (.dat (.int .i64)), .l (.sl 0) (.mat 31 59 (.leaf 3))] 6 [0, 4, 5, 6, 7, 19, 20] [] [.l (.sl 0) (.mat 31 59 (.leaf 3))] (.f (.n (.n (.f (.j [0, 4, 5, 6, 7, 8, 19, 20, 108, 109] [] [.l (.sl 0) (.mat 31 59 (.leaf 3))] (.f (.n (.n (.two (.f (.j [0, 4, 5, 6, 7, 8, 12, 13, 19, 20, 108, 109] [] [.s 126 (.dat .bool)] .no)) (.n (.f (.l [0, 4, 5, 6, 7, 8, 12, 13, 19, 20, 108, 109, 131] [] [.s 132 (.dat (.int .i64)), .l (.sl 0) (.mat 31 59 (.leaf 3))] 8 [0, 4, 5, 6, 7, 8, 19, 20, 108, 109] [] [.l (.sl 0) (.mat 31 59 (.leaf 3))] .no))))))))))))))))))))))))))))))))))))))) Tryz.func85 [(66, Tryz.f66, .r [] [] [.s 1000 (.dat (.int .i64))] .no), (81, Tryz.f81, .n (.n (.f (.n (.f (.l [3, 9, 10] [] [.s 11 (.dat (.int .i64)), .l (.sl 3) (.mat 31 59 (.leaf 3))] 0 [3] [] [.l (.sl 3) (.mat 31 59 (.leaf 3))] .no))))))] (fun _ => by kernel_rfl) ⟨Zhg, Zte, ZWn, ZAh, Zcf, Z5j, tr⟩ ⟨Zjn, tr⟩ ⟨Zjl, Z1h, Z8f, Zql, ZIj, tr⟩ ⟨⟨Tryz.func66, fun _ _ => by kernel_rfl⟩, ⟨Tryz.func81, fun _ _ => by kernel_rfl⟩, tr⟩)
end Go.Eng
set_option maxRecDepth 100000
set_option maxHeartbeats 4000000
namespace Go.Eng
open Go.Proofs Go.RowKit
noncomputable def Z7r:FuncId×Con:=(39,⟨[.slice (.slice (.leaf 3))],[.slice (.slice (.leaf 3)),.slice (.int .i64),.int .i64],fun p=>ZBq p⟩)
theorem ZKx:KQ Z7r:=Zh (Zv (C:=cf0 [ZGl,ZOl] [] [] []) .no Tryz.func39 [] (fun _=>by kernel_rfl) ⟨ZFq,Zms,tr⟩)
end Go.Eng
set_option maxRecDepth 100000
set_option maxHeartbeats 4000000
namespace Go.Eng
open Go.Proofs Go.RowKit
noncomputable def Zht:FuncId×Con:=(116,⟨[.slice (.int .i64),.int .i64],[.int .i64],fun p=>ZSr p.1 p.2⟩)
theorem Ziv:KQ Zht:=Zh (Zv (C:=cf0 [] [] [] []) (.n (.f (.n (.cut ⟨⟨[],[],[]⟩,[(.norm,⟨[],[],[]⟩),(.ret,⟨[],[],[.s 1000 (.dat (.int .i64))]⟩)]⟩ (.f (.cut ⟨⟨[0,1,7],[],[.s 8 (.dat (.int .i64))]⟩,[(.ret,⟨[],[],[.s 1000 (.dat (.int .i64))]⟩),(.exit 0,⟨[],[],[]⟩)]⟩ .no)))))) Tryz.func116 [] (fun _=>by kernel_rfl))
end Go.Eng
set_option maxRecDepth 100000
set_option maxHeartbeats 4000000
namespace Go.Eng
open Go.Proofs Go.RowKit
noncomputable def ZUo:FuncId×Con:=(86,⟨[.slice (.int .i64),.int .i64],[.bool],fun p=>ZAt p.1 p.2⟩)
theorem Zey:KQ ZUo:=Zh (Zv (C:=cf0 [Zht] [] [] []) .no Tryz.func86 [] (fun _=>by kernel_rfl) ⟨Ziv,tr⟩)
end Go.Eng
set_option maxRecDepth 100000
set_option maxHeartbeats 4000000
namespace Go.Eng
open Go.Proofs Go.RowKit
noncomputable def Zlo:FuncId×Con:=(40,⟨[.slice (.slice (.leaf 3))],[.slice (.slice (.leaf 3)),.int .i64],fun p=>ZWq p⟩)
theorem ZDt : KQ Zlo := Zh (Zv (C := cf0 [ZIn, ZDd, ZGl, ZOl, ZUo, ZKe] [] [Zqf] [((59, "Neg"), 208)]) (.n (.n (.n (.n (.f (.n (.f (.l [0, 4, 5, 22] [] [.s 7 (.own 31 (.slice (.leaf 3))), .s 23 (.dat (.int .i64))] 0 [] [] [.s 7 (.own 31 (.slice (.leaf 3)))] (.f (.n (.n (.f (.j [0, 4, 5, 22, 23] [] [.s 7 (.own 31 (.slice (.leaf 3)))] (.f (.n (.n (.n (.n (.f (.n (.f (.l [0, 4, 5, 7, 8, 9, 22, 23, 36, 37] [] [.s 38 (.dat (.int .i64)), .l (.sl 9) (.own 59 (.leaf 3))] 2 [0, 4, 5, 7, 9, 22, 23] [] [.l (.sl 9) (.own 59 (.leaf 3))] .no)))))))))))))))))))))) Tryz.func40 [(53, Tryz.f53, .no)] (fun _ => by kernel_rfl) ⟨ZEr, Zte, ZFq, Zms, Zey, Zcf, tr⟩ ⟨Zsi, tr⟩ ⟨Z8f, tr⟩ ⟨⟨Tryz.func53, fun _ _ => by kernel_rfl⟩, tr⟩)
end Go.Eng
namespace Go.Eng
open Go.Proofs Go.RowKit
theorem ZPv {r:World} {d:Zb} (hv:VIn d r) {D:List Value} {n:Int} (L:Rep.rel (Zd .u64) d D n) {z:(List UInt8)} (H:ZMj n=some z):Ret Tryz.prog 119 #[(Zd .u64).val D] r d (fun y v'=>∃ E,y=ZQa.val E∧ZQa.rel v' E z):=by
 obtain ⟨rfl,M⟩:=L;refine ZEi (K:=20) (args:=[.int .u64 n]) hv Tryz.func119 rfl rfl zl fun f S=>?_;unfold ZMj at H;refine sr (mw S rfl fun f S=>oe (sr (ZNq S wn rfl zl (cs:=[.int .u8 0,.int .u8 0,.int .u8 0,.int .u8 0,.int .u8 0,.int .u8 0,.int .u8 0,.int .u8 0,.int .u8 0,.int .u8 0,.int .u8 0,.int .u8 0,.int .u8 0,.int .u8 0,.int .u8 0,.int .u8 0,.int .u8 0,.int .u8 0,.int .u8 0,.int .u8 0]) (Zxl k_zv227) fun s f w S=>?_)));have S:=S.boxOwn 1 20 rfl zl;have N:Rep.rels (Zd .u8) d [.int .u8 0,.int .u8 0,.int .u8 0,.int .u8 0,.int .u8 0,.int .u8 0,.int .u8 0,.int .u8 0,.int .u8 0,.int .u8 0,.int .u8 0,.int .u8 0,.int .u8 0,.int .u8 0,.int .u8 0,.int .u8 0,.int .u8 0,.int .u8 0,.int .u8 0,.int .u8 0] (List.replicate 20 (0:Int)):=Z6g (show Rep.rel (Zd .u8) _ [Value.int .u8 0] 0 from ⟨rfl,by decide⟩) 20;refine oe (sr (mw S rfl fun f S=>oe (Zz fun _ O=>?_)));obtain ⟨P,Q,R⟩:=Zea H;refine ZQc (fun f w=>∃ l m B t,(l,m)=P∧Zb.le d t∧St 20 r d [(3,.pointer (some ⟨s,0,none⟩)),(4,.int .i64 m)] [Loc.own (some s) 227 1 20 20 B] t f w∧Rep.rels (Zd .u8) t B l∧20=l.length∧inR .i64 m) (fun _ T=>?_) ?_
 ·have H:=Q;refine wp_block ?_;obtain ⟨ak,U,V⟩:=Zea H;refine ZFd U (fun W f w=>∃ h o u b k,(h,o,u)=W∧Zb.le d k∧St 20 r d [(0,.int .u64 o),(3,.pointer (some ⟨s,0,none⟩)),(4,.int .i64 u)] [Loc.own (some s) 227 1 20 20 b] k f w∧Rep.rels (Zd .u8) k b h∧20=h.length∧inR .u64 o∧inR .i64 u) ⟨_,_,_,[.int .u8 0,.int .u8 0,.int .u8 0,.int .u8 0,.int .u8 0,.int .u8 0,.int .u8 0,.int .u8 0,.int .u8 0,.int .u8 0,.int .u8 0,.int .u8 0,.int .u8 0,.int .u8 0,.int .u8 0,.int .u8 0,.int .u8 0,.int .u8 0,.int .u8 0,.int .u8 0],_,rfl,(leR _),(S.fr' rfl),N,(List.length_replicate (n:=20) (a:=(0:Int))).symm,M,(by decide)⟩ ?_;rintro _ f w st ⟨h,o,u,b,k,hq,F,S,C,v,al,X⟩ H am Y Z;subst hq;refine Zz fun _ aa=>sr (mv S rfl fun f S=>ov S rfl (ZA S rfl rfl Zvf) fun f S=>oe ?_);rcases Z8a (decide ((0:Int)<o)) with p | p
  ·have H:=Zbb H p;refine Zgb S rfl p (wp_skip (Zp (aa _ _ (Zz fun _ ab=>wp_block (Zz fun _ ac=>bO H fun e G H=>ZP (mv S rfl fun f S=>ov S rfl (ZA S rfl rfl (Zvb G)) fun f S=>mw S rfl fun f S=>ZJ (Zp (ac _ _ (bO H fun g ad H=>?_)))))))));refine bO H fun an q H=>ZP (mv S rfl fun f S=>mv S rfl fun f S=>ov S rfl (ZA S rfl rfl (Znt ad)) fun f S=>ov S rfl (ZA S rfl rfl ZPm) fun f S=>ov S rfl (Zyf S rfl (ZLt _)) fun f S=>?_);have I:=Zxa C (Zn q).2.1;obtain ⟨ao,ae⟩:∃ c,(List.take (Zd .u8).n (List.drop ((e).toNat*(Zd .u8).n) b))=c:=⟨_,rfl⟩;rw [ae] at I;obtain ⟨rfl,ap⟩:=I;refine ov S rfl (Zwo S ZPr rfl rfl (Zn q).1 (ltI v (Zn q).2.2.1)) fun f S=>?_;obtain ⟨w,af,S⟩:=Zjd S k_sz5 (off:=0+(e).toNat*1) (z:=.int .u8 (IntKind.u8.wrap (IntKind.u64.wrap ((48:Int)+g)))) (cs:=[.int .u8 (IntKind.u8.wrap (IntKind.u64.wrap ((48:Int)+g)))]) (Zxc rfl) rfl (i:=0) rfl (ZVh S (j:=0) rfl (ltN v (Zn q).2.2.2)) (by first | rfl | simp [plain]);have ag:Rep.rels (Zd .u8) k (List.take (0+(e).toNat*1) b++[Value.int IntKind.u8 (IntKind.u8.wrap (IntKind.u64.wrap ((48:Int)+g)))]++List.drop (0+(e).toNat*1+1) b) (h.set (e).toNat (IntKind.u8.wrap (IntKind.u64.wrap ((48:Int)+g)))):=ZIg C (Zn q).2.2.2 (show Rep.rel (Zd .u8) k [.int .u8 (IntKind.u8.wrap (IntKind.u64.wrap ((48:Int)+g)))] _ from (Z0 (ZAb _ _))) rfl rfl
   have ah:20=(h.set (e).toNat (IntKind.u8.wrap (IntKind.u64.wrap ((48:Int)+g)))).length:=setN v;refine ZMi wn rfl (af rfl rfl) (ZJ (Zod (Zp (ab _ _ (bO H fun aq J H=>ZP (mv S rfl fun f S=>ov S rfl (ZA S rfl rfl (Zbr J)) fun f S=>mw S rfl fun f S=>ZJ ?_))))));obtain rfl:=ZE H;refine Y _ rfl _ _ ⟨_,_,_,(List.take (0+(e).toNat*1) b++[Value.int IntKind.u8 (IntKind.u8.wrap (IntKind.u64.wrap ((48:Int)+g)))]++List.drop (0+(e).toNat*1+1) b),_,rfl,F,(S.fr' rfl),ag,ah,(Z0p J),(Zqb G).2⟩
  have H:=Zib H p;refine Zwa S rfl p (wp_exit (ZRa ?_));obtain rfl:=ZE H;have hq:=Z _ rfl;subst hq;have H:=V;refine ZRa (Zrd ?_);obtain rfl:=ZE H;refine Zp (T _ _ ⟨_,_,b,_,rfl,(leT (leR _) F),(S.fr' rfl),C,v,X⟩)
 rintro f w ⟨l,m,B,t,hq,ar,S,ai,x,au⟩;subst hq;have H:=R;refine Zp (O _ _ (Zz fun _ aj=>bO H fun av A H=>ZP (mv S rfl fun f S=>ov S rfl (Zuy S ZPr rfl rfl (Z7e A).1 (by have:=(Z7e A).2.1;have:=x;omega)) fun f S=>ov S rfl (ZLw S (j:=0) rfl ai x (by have:=(Z7e A).2.1;have:=(Z7e A).1;have:=x;omega) rfl Tryz.underlying189 Tryz.underlying5 Tryz.underlying9) fun f S=>mw S rfl fun f S=>ZJ (Zp (aj _ _ (wp_ret ?_))))));obtain rfl:=ZE H;refine Zif S (ZFc rfl (ZMa S rfl)) ⟨[.string (Zr ((Zvd (l.drop ((m).toNat)))))],rfl,(Zwh (by have:=x;simp only [Zov,List.length_drop];unfold maxLen;omega))⟩
theorem Z3w {b:World} {a:Zb} (hv:VIn a b) {c:List Value} {n:Int} (d:Rep.rel (Zd .u64) a c n) {z:(List UInt8)} (hm:Zvg n=some z) :
  Ret Tryz.prog 119 #[(Zd .u64).val c] b a (fun y v'=>∃ e,y=ZQa.val e∧ZQa.rel v' e z) :=
 ZPv hv d (ZUt d.2 hm)
end Go.Eng
namespace Go.Proofs
open Go.Shelf
def Tryz.lays105_ren:Go.Shelf.Ren:=⟨fun | 105=>120 | 212=>127 | 99=>152 | 165=>153 | 166=>121 | 170=>154 | 169=>122 | 263=>159 | 264=>160 | 206=>172 | 240=>155 | 241=>173 | 276=>174 | 277=>179 | n=>n,fun | 9=>9 | 3=>3 | 4=>4 | 20=>20 | 0=>0 | 46=>200 | 109=>202 | 5=>5 | 72=>191 | 76=>194 | 51=>154 | 146=>233 | 53=>153 | 148=>224 | 70=>188 | 37=>189 | 75=>193 | 127=>230 | 164=>241 | 80=>106 | n=>n,fun | n=>n⟩
theorem Tryz.lays105:Go.Proofs.Lays.n105 Tryz.prog Tryz.lays105_ren:={
 mixed:=by kernel_rfl
 f99:=Tryz.func152.trans (congrArg some (by kernel_rfl))
 f105:=Tryz.func120.trans (congrArg some (by kernel_rfl))
 f165:=Tryz.func153.trans (congrArg some (by kernel_rfl))
 f166:=Tryz.func121.trans (congrArg some (by kernel_rfl))
 f169:=Tryz.func122.trans (congrArg some (by kernel_rfl))
 f170:=Tryz.func154.trans (congrArg some (by kernel_rfl))
 f206:=Tryz.func172.trans (congrArg some (by kernel_rfl))
 f212:=Tryz.func127.trans (congrArg some (by kernel_rfl))
 f240:=Tryz.func155.trans (congrArg some (by kernel_rfl))
 f241:=Tryz.func173.trans (congrArg some (by kernel_rfl))
 f263:=Tryz.func159.trans (congrArg some (by kernel_rfl))
 f264:=Tryz.func160.trans (congrArg some (by kernel_rfl))
 f276:=Tryz.func174.trans (congrArg some (by kernel_rfl))
 f277:=Tryz.func179.trans (congrArg some (by kernel_rfl))
 t0:=Tryz.underlying0
 a0:=Tryz.isAgg0
 z0:=Tryz.sizeOf0
 v0:=Tryz.zeroValue0
 t3:=Tryz.underlying3
 a3:=Tryz.isAgg3
 z3:=Tryz.sizeOf3
 v3:=Tryz.zeroValue3
 t4:=Tryz.underlying4
 a4:=Tryz.isAgg4
 z4:=Tryz.sizeOf4
 v4:=Tryz.zeroValue4
 t5:=Tryz.underlying5
 a5:=Tryz.isAgg5
 z5:=Tryz.sizeOf5
 v5:=Tryz.zeroValue5
 t9:=Tryz.underlying9
 a9:=Tryz.isAgg9
 z9:=Tryz.sizeOf9
 v9:=Tryz.zeroValue9
 t20:=Tryz.underlying20
 a20:=Tryz.isAgg20
 z20:=Tryz.sizeOf20
 v20:=Tryz.zeroValue20
 t37:=Tryz.underlying189
 a37:=Tryz.isAgg189
 z37:=Tryz.sizeOf189
 v37:=Tryz.zeroValue189
 t46:=Tryz.underlying200
 a46:=Tryz.isAgg200
 z46:=Tryz.sizeOf200
 v46:=Tryz.zeroValue200
 t51:=Tryz.underlying154
 a51:=Tryz.isAgg154
 z51:=Tryz.sizeOf154
 v51:=Tryz.zeroValue154
 t53:=Tryz.underlying153
 a53:=Tryz.isAgg153
 z53:=Tryz.sizeOf153
 v53:=Tryz.zeroValue153
 t70:=Tryz.underlying188
 a70:=Tryz.isAgg188
 z70:=Tryz.sizeOf188
 v70:=Tryz.zeroValue188
 t72:=Tryz.underlying191
 a72:=Tryz.isAgg191
 z72:=Tryz.sizeOf191
 v72:=Tryz.zeroValue191
 t75:=Tryz.underlying193
 a75:=Tryz.isAgg193
 z75:=Tryz.sizeOf193
 v75:=Tryz.zeroValue193
 t76:=Tryz.underlying194
 a76:=Tryz.isAgg194
 z76:=Tryz.sizeOf194
 v76:=Tryz.zeroValue194
 t109:=Tryz.underlying202
 a109:=Tryz.isAgg202
 z109:=Tryz.sizeOf202
 v109:=Tryz.zeroValue202
 t127:=Tryz.underlying230
 a127:=Tryz.isAgg230
 z127:=Tryz.sizeOf230
 v127:=Tryz.zeroValue230
 t146:=Tryz.underlying233
 a146:=Tryz.isAgg233
 z146:=Tryz.sizeOf233
 v146:=Tryz.zeroValue233
 t148:=Tryz.underlying224
 a148:=Tryz.isAgg224
 z148:=Tryz.sizeOf224
 v148:=Tryz.zeroValue224
 t164:=Tryz.underlying241
 a164:=Tryz.isAgg241
 z164:=Tryz.sizeOf241
 v164:=Tryz.zeroValue241 }
theorem Tryz.Builder_Extra_105:Builder.Extra Tryz.prog Tryz.lays105_ren:={
 sizeBuilder:=by kernel_rfl
 liesBuilder:=by kernel_rfl
 t5:=Tryz.underlying5
 a5:=Tryz.isAgg5
 z5:=Tryz.sizeOf5
 v5:=Tryz.zeroValue5
 infoByte:=by kernel_rfl
 cellsByte:=by kernel_rfl
 sizeByte:=by kernel_rfl
 neB5:=by decide }
end Go.Proofs
namespace Go.Eng
open Go.Proofs Go.RowKit Go.Shelf
theorem writes:ZAo Tryz.prog 121 191 5:=fun B b bs s w h hl hB=>Any.Builder_WriteString { Tryz.lays105 with } Tryz.Builder_Extra_105 B b bs s w h hl hB
theorem tells:Tells Tryz.prog 122 191 5:=fun B b l w h hB=>Any.Builder_String_any { Tryz.lays105 with } Tryz.Builder_Extra_105 B b l w h hB
end Go.Eng
namespace Go.Eng
open Go.Proofs Go.RowKit
theorem Znv (l:List UInt8) (c:Nat):Lib.repeatL l c=(List.replicate c l).flatten:=by
 induction c with
 | zero=>rfl
 | succ c ih=>simp [Lib.repeatL,List.replicate_succ,ih]
theorem ZCy {b:World} {a:Zb} (hv:VIn a b) {f:List Value} {s:List UInt8} (k:Rep.rel ZQa a f s) {g:List Value} {c:Int} (l:Rep.rel (Zd .i64) a g c) {z:List UInt8} (hm:Z7f s c=some z) :
  Ret Tryz.prog 120 #[ZQa.val f,(Zd .i64).val g] b a (fun y v'=>∃ h,y=ZQa.val h∧ZQa.rel v' h z):=by
 obtain ⟨rfl,hs⟩:=k;obtain ⟨rfl,hc⟩:=l;unfold Z7f at hm;split at hm
 ·rename_i hh
  cases hm
  obtain ⟨C,rfl⟩:=Int.eq_ofNat_of_zero_le hh.1;have hc:=ZJa.1 hc;have d:=hh.2;rw [Int.toNat_natCast] at d;have:=Any.strings_Repeat Tryz.lays105 Tryz.Builder_Extra_105 (Zr s) C b (by omega) (by rw [ZDc];exact d);refine Calls.mono this fun e w' ⟨i,j⟩=>?_;have m:(⟨(Lib.repeatL (Zr s).data.toList C).toArray⟩:ByteArray)=Zr (List.replicate C s).flatten:=by
   rw [Znv];rfl
  rw [m] at i;exact ⟨_,a,i,j,VStep.ext hv j,[.string (Zr (List.replicate C s).flatten)],rfl,rfl,by simp only [Int.toNat_natCast];rw [List.length_flatten];simp;unfold maxLen;rw [Nat.mul_comm] at d;omega⟩
 ·cases hm
theorem text_w {e:World} {c:Zb} (hv:VIn c e) {c0:List Value} {a:Nat} (p0:Rep.rel Zs c c0 a) {z:(List UInt8)} (H:Zgi a=some z):Ret Tryz.prog 88 #[Zs.val c0] e c (fun y v'=>∃ r0,y=ZQa.val r0∧ZQa.rel v' r0 z):=by
 obtain ⟨q1,n2,k3,rfl⟩:=Zza p0;refine ZEi (K:=49) (args:=[.slice q1 n2 k3]) hv Tryz.func88 rfl rfl zl fun f S=>?_;unfold Zgi at H;refine sr (mw S rfl fun f S=>oe (sr ?_));have S:=S.nilLoc 9 1;refine ov S rfl (Z8c S (y:=.slice (mkA none) 0 0) rfl) fun f S=>oe (Zz fun _ ar=>?_);obtain ⟨au,av,ax⟩:=Zea H;refine ZQc (fun f w=>∃ o F s G U I,o=au∧Zb.le c I∧St 49 e c [(3,.slice (mkA F) s G)] [Loc.own F 9 1 s G U] I f w∧Rep.rels ZQa I U o∧s=o.length) (fun _ ay=>?_) ?_
 ·have H:=av;refine wp_block ?_;obtain ⟨bt,az,aA⟩:=Zea H;refine ZFd az (fun aB f w=>∃ J g L M N p h q k t,(J,g)=aB∧Zb.le c t∧St 49 e c [(0,.slice L M N),(3,.slice (mkA p) h q)] [Loc.own p 9 1 h q k] t f w∧Rep.rel Zs t [.slice L M N] J∧Rep.rels ZQa t k g∧h=g.length) ⟨_,_,_,_,_,none,0,0,[],_,rfl,(leR _),(S.fr' rfl),p0,Z2c,rfl⟩ ?_;rintro _ f w st ⟨J,g,L,M,N,p,h,q,k,t,hq,ac,S,ad,d,ae⟩ H bu aC aD;subst hq;refine Zz fun _ aE=>sr (mv S rfl fun f S=>ov S rfl (ZKb S (ZWa ad) rfl rfl Z6) fun f S=>ov S rfl (ZA S rfl rfl Zvf) fun f S=>oe ?_);rcases Z8a (decide ((0:Int)<(((Zc 18446744073709551616 J)).length:Int))) with u | u
  ·have H:=Zbb H u;refine Zgb S rfl u (wp_skip (Zp (aE _ _ (wp_block (Zz fun _ aF=>bO H fun O aG H=>ZP (mv S rfl fun f S=>opc S rfl (Zka S [.slice L M N,.int .u64 10000000000000000000] ZQp rfl rfl) (ZBp S.vin ad (show Rep.rel (Zd .u64) _ [.int .u64 10000000000000000000] (10000000000000000000:Int) from (Z0 (by decide))) aG) ?_))))));rintro _ bv f w af ⟨bw,bx,rfl,m,aH⟩ S;have d:=ZI af d;obtain ⟨aI,aJ,aK,rfl⟩:=Zza m;obtain ⟨rfl,aL⟩:=aH;refine mv S rfl fun f S=>ov S rfl (Zta S rfl rfl) fun f S=>ov S rfl (Zta S rfl rfl) fun f S=>mw S rfl fun f S=>mw S rfl fun f S=>ZJ (Zp (aF _ _ (Zz fun _ aM=>bO H fun bz aN H=>ZP (mv S rfl fun f S=>opc S rfl (Zka S [.int .u64 (O.2)] k_en119 rfl rfl) (Z3w S.vin (show Rep.rel (Zd .u64) _ [.int .u64 (O.2)] O.2 from (Z0 aL)) aN) ?_))));rintro _ aO f w V ⟨bA,rfl,aP⟩ S;have d:=ZI V d;obtain ⟨rfl,aQ⟩:=aP;refine mw S rfl fun f S=>ZJ (Zp (aM _ _ (Zz fun _ aR=>sr (mv S rfl fun f S=>?_))));have m:=Zoa V m;refine ov S rfl (ZKb S (ZWa m) rfl rfl Z6) fun f S=>ov S rfl (ZA S rfl rfl Zvf) fun f S=>oe ?_;obtain ⟨aS,aT,aU⟩:=Zea H;refine ZQc (fun f w=>∃ b P,b=aS∧Zb.le aO P∧St 49 e c [(3,.slice (mkA p) h q),(4,.slice aI aJ aK),(6,.string (Zr b))] [Loc.own p 9 1 h q k] P f w∧b.length≤maxLen) (fun _ ag=>?_) ?_
   ·have H:=aT;rcases Z8a (decide ((0:Int)<(((Zc 18446744073709551616 O.1)).length:Int))) with v | v
    ·have H:=Zbb H v;refine Zgb S rfl v (bO H fun W ah H=>bO H fun bB aV H=>bO H fun bC ai H=>ZP (mv S rfl fun f S=>ov S rfl (Zys S rfl rfl Tryz.underlying9) fun f S=>ov S rfl (ZA S rfl rfl (Zvb ah)) fun f S=>opc S rfl (Zka S [.string (Zr (([48]:List UInt8))),.int .i64 W] k_en120 rfl rfl) (ZCy S.vin (show Rep.rel ZQa _ [.string (Zr (([48]:List UInt8)))] (([48]:List UInt8)) from (Zwh zl)) (show Rep.rel (Zd .i64) _ [.int .i64 W] W from (Z0 (Zqb ah).2)) aV) ?_));rintro _ bD f w aj ⟨bE,rfl,aW⟩ S;have d:=ZI aj d;obtain ⟨rfl,bG⟩:=aW;refine mv S rfl fun f S=>ov S rfl (Zjj S rfl rfl (Zco ai)) fun f S=>mw S rfl fun f S=>ZJ ?_;obtain rfl:=ZE H;refine Zp (ag _ _ ⟨_,_,rfl,(leT (leR _) aj),(S.fr' rfl),(Zej ai)⟩)
    have H:=Zib H v;refine Zwa S rfl v (wp_skip ?_);obtain rfl:=ZE H;refine Zp (ag _ _ ⟨_,_,rfl,(leR _),(S.fr' rfl),aQ⟩)
   rintro f w ⟨b,P,hq,X,S,aX⟩;subst hq;have H:=aU;have d:=ZI X d;refine Zp (aR _ _ (bO H fun bH aY H=>ZP (mv S rfl fun f S=>mv S rfl fun f S=>?_)));obtain ⟨bI,w,aZ,S⟩:=Zeg S (n:=1) (cs:=[.string (Zr b)]) (vals:=[(0,.string (Zr b))]) (sz:=1) rfl (by decide) (Zwp ZYs (x:=.string (Zr b)) (cs:=[.string (Zr b)]) rfl rfl (by decide));have Y:Rep.rels ZQa P [.string (Zr b)] [b]:=(Zzo (Zwh aX) Z2c);refine Zkc wn rfl zl (aZ rfl) S fun f S=>?_;have a0:=S;obtain ⟨ak,al,w,a1,S⟩:=ZGk (ty:=183) ZYs S (i:=1) (n':=(g++[b]).length) rfl (Z0d Y rfl) (Z4g S (j:=0) rfl) (Zmg Y) (appN ae rfl) (ZWd aY) (by decide);have a2:=Zxb d Y;refine Zkc wn rfl zl (ZVd a0 rfl rfl a1) S fun f S=>mv S rfl fun f S=>mw S rfl fun f S=>mw S rfl fun f S=>ZJ (Zod ?_);obtain rfl:=ZE H;have S:=S.reorder (ℓ':=[Loc.own ak 9 1 ((g++[b]).length) al ((k++[.string (Zr b)]))]) [1] rfl (by decide);have m:=Zoa X m;refine aC _ rfl _ _ ⟨_,_,_,_,_,ak,(g++[b]).length,al,(k++[.string (Zr b)]),_,rfl,(leT (leT (leT ac af) V) X),(S.fr' rfl),m,a2,rfl⟩
  have H:=Zib H u;refine Zwa S rfl u (wp_exit (ZRa ?_));obtain rfl:=ZE H;have hq:=aD _ rfl;subst hq;have H:=aA;refine ZRa (Zrd ?_);obtain rfl:=ZE H;refine Zp (ay _ _ ⟨_,p,h,q,k,_,rfl,(leT (leR _) ac),(S.fr' rfl),d,ae⟩)
 rintro f w ⟨o,F,s,G,U,I,hq,bJ,S,a3,am⟩;subst hq;have H:=ax;refine Zp (ar _ _ (Zz fun _ a4=>sr (mv S rfl fun f S=>ov S rfl (ZKb S am rfl rfl ZNm) fun f S=>ov S rfl (ZA S rfl rfl Z3f) fun f S=>oe ?_)));rcases Z8a (((o.length:Int))==(0:Int)) with B | B
 ·have H:=Zbb H B;refine Zgb S rfl B (sr (mw S rfl fun f S=>oe (wp_ret (Zah ?_))));obtain rfl:=ZE H;refine Zif S (ZFc rfl (ZMa S rfl)) ⟨[.string (Zr (([48]:List UInt8)))],rfl,(Zwh zl)⟩
 have H:=Zib H B;refine Zwa S rfl B (wp_skip (Zp (a4 _ _ (sr ?_))));obtain ⟨an,bK,S,C⟩:=S.pubSlice (i:=0) (A:=ZQa) (l:=o) (ℓ':=[]) rfl rfl am a3 rfl;refine op_newB 5 S wn rfl zl (Zxl k_zv191) fun r f w S a5=>oe (Zz fun _ a6=>Zz fun _ a7=>bO H fun bM ao H=>ZP (mv S rfl fun f S=>ov S rfl (ZKb S (ZWa C) rfl rfl ZNm) fun f S=>ov S rfl (ZA S rfl rfl (Zvb ao)) fun f S=>mw S rfl fun f S=>ZJ (Zp (a7 _ _ ?_))));obtain ⟨a8,a9,ba⟩:=Zea H;refine ZQc (fun f w=>∃ Q R,Q=a8∧Zb.le an R∧St 49 e c [(7,.pointer (some ⟨r,0,none⟩))] [] R f w∧Bld 191 5 r e R Q w) (fun _ bb=>?_) ?_
 ·have H:=a9;refine wp_block ?_;obtain ⟨bP,bc,bd⟩:=Zea H;refine ZFd bc (fun be f w=>∃ Z D T,(Z,D)=be∧Zb.le an T∧St 49 e c [(3,.slice (mkA F) s G),(7,.pointer (some ⟨r,0,none⟩)),(8,.int .i64 D)] [] T f w∧Bld 191 5 r e T Z w∧inR .i64 D) ⟨_,_,_,rfl,(leR _),(S.fr' rfl),a5,(Zqb ao).2⟩ ?_;rintro _ f w st ⟨Z,D,T,hq,aa,S,ap,bQ⟩ H bR bf bg;subst hq;refine Zz fun _ bh=>sr (mv S rfl fun f S=>ov S rfl (ZA S rfl rfl Z1n) fun f S=>oe ?_);rcases Z8a (decide ((0:Int)≤D)) with E | E
  ·have H:=Zbb H E;refine Zgb S rfl E (wp_skip (Zp (bh _ _ (Zz fun _ bi=>wp_block (bO H fun bj ab H=>bO H fun bS bk H=>ZP (mv S rfl fun f S=>mv S rfl fun f S=>?_))))));have C:=Zoa aa C;obtain ⟨_,bT,bU,bV,bm,bn,bo⟩:=ZWb C (Zn ab).2.1;obtain ⟨rfl,rfl⟩:=ZZw bm;obtain ⟨rfl,bW⟩:=bo;refine ov S rfl (Zfa S rfl rfl ZNm (Zn ab).1 (ltI (ZWa C) (Zn ab).2.2.1)) fun f S=>ov S rfl (ZYa S rfl k_sz9 (S.view bn)) fun f S=>Z7t writes ap (Z2u bk) S wn rfl zl (Zka S [.pointer (some ⟨r,0,none⟩),.string (Zr bj)] k_en121 rfl rfl) fun f w S bp=>ZJ (Zod (Zp (bi _ _ (bO H fun bX aq H=>ZP (mv S rfl fun f S=>ov S rfl (ZA S rfl rfl (Zvb aq)) fun f S=>mw S rfl fun f S=>ZJ ?_)))));obtain rfl:=ZE H;refine bf _ rfl _ _ ⟨_,_,_,rfl,aa,(S.fr' rfl),bp,(Zqb aq).2⟩
  have H:=Zib H E;refine Zwa S rfl E (wp_exit (ZRa ?_));obtain rfl:=ZE H;have hq:=bg _ rfl;subst hq;have H:=bd;refine ZRa (Zrd ?_);obtain rfl:=ZE H;refine Zp (bb _ _ ⟨_,_,rfl,(leT (leR _) aa),(S.fr' rfl),ap⟩)
 rintro f w ⟨Q,R,hq,bY,S,bq⟩;subst hq;have H:=ba;refine Zp (a6 _ _ (Zz fun _ br=>bO H fun bZ bs H=>ZP (op_tell tells bq S wn rfl zl (Zka S [.pointer (some ⟨r,0,none⟩)] k_en122 rfl rfl) fun f w S=>mw S rfl fun f S=>ZJ (Zp (br _ _ (wp_ret ?_))))));obtain rfl:=ZE H;refine Zif S (ZFc rfl (ZMa S rfl)) ⟨[.string (Zr Q)],rfl,(Zwh (Zej bs))⟩
theorem text_c {c:World} {b:Zb} (hv:VIn b c) {d:List Value} {a:Nat} (f:Rep.rel Zs b d a) {z:(List UInt8)} (hm:Z3e a=some z) :
  Ret Tryz.prog 88 #[Zs.val d] c b (fun y v'=>∃ e,y=ZQa.val e∧ZQa.rel v' e z) :=
 text_w hv f (ZIy hm)
end Go.Eng
set_option maxRecDepth 100000
set_option maxHeartbeats 4000000
namespace Go.Eng
open Go.Proofs Go.RowKit
noncomputable def Zpm:FuncId×Con:=(88,⟨[.leaf 0],[.str],fun p=>Z3e p⟩)
theorem text_k:Z1d Tryz.prog Zpm.1 Zpm.2:=fun w v vals x z hv ha hz=>by
 obtain ⟨c0,e0,p0⟩:=ha;subst e0
 exact .inl ⟨fun _ _=>by kernel_rfl,Ret.mono (text_c hv p0 hz) fun y v' _ ⟨r0,e,h0⟩=>⟨r0,e,h0⟩⟩
end Go.Eng
set_option maxRecDepth 100000
set_option maxHeartbeats 4000000
namespace Go.Eng
open Go.Proofs Go.RowKit
noncomputable def Zul:FuncId×Con:=(42,⟨[.leaf 3],[.str],fun p=>Zyg p⟩)
theorem Z1q:KQ Zul:=Zh (Zx (C:=cf0 [Zpm] [] [] []) (.n (.n (.two (.n (.j [1] [] [.s 3 (.dat .str)] .no)) (.f (.n (.j [] [] [.s 3 (.dat .str)] .no)))))) Tryz.func42 [] (fun v vals x z ha hz=>.trans (by kernel_rfl) (ZFx hz)) ⟨text_k,tr⟩)
noncomputable def Zzs (x:Rat):Option ((List UInt8)) :=
 bnd (Z1f x.num.natAbs) fun b =>
 bnd (ifb (decide (x.num<0))
 (bnd (ZYb x) fun d =>
 some (!(d)))
 (some false))
 (fun (e:Bool) =>
 (bnd (ifb (e)
 (bnd (ZZa ((([45]:List UInt8))++b)) fun j =>
 some (((([45]:List UInt8))++b)))
 (some b))
 (fun (a:(List UInt8)) =>
 (bnd (ZUb x) fun f =>
 bnd (ZGa ([(1:Int)])) fun g =>
 bnd (Zrc f g) fun h =>
 bnd (ifb (decide ((0:Int)<h))
 (bnd (ZZa (a++(([47]:List UInt8)))) fun k =>
 bnd (Z1f x.den) fun c =>
 bnd (ZZa (((a++(([47]:List UInt8))))++c)) fun l =>
 some ((((a++(([47]:List UInt8))))++c)))
 (some a))
 (fun (i:(List UInt8)) =>
 (some i))))))
end Go.Eng
set_option maxRecDepth 100000
set_option maxHeartbeats 4000000
namespace Go.Eng
open Go.Proofs Go.RowKit
noncomputable def Zwk:FuncId×Con:=(97,⟨[.leaf 4],[.bool],fun p=>ZYb p⟩)
theorem Z6m:KQ Zwk:=Zh (Zx (C:=cf2 [(43,1),(45,4)] []) .no Tryz.func97 [] (fun v vals x z ha hz=>.trans (by kernel_rfl) (ZYx hz)))
end Go.Eng
set_option maxRecDepth 100000
set_option maxHeartbeats 4000000
namespace Go.Eng
open Go.Proofs Go.RowKit
noncomputable def ZRs:FuncId×Con:=(100,⟨[.leaf 1],[.str],fun p=>Z1f p⟩)
theorem ZRu:KQ ZRs:=Zh (Zx (C:=cf2 [(43,1),(45,4)] [ZEl]) (.n (.n (.f (.j [] [] [.s 3 (.dat .str)] (.f (.l [] [] [.s 0 (.dat (.leaf 1)),.s 3 (.dat .str)] 0 [] [] [.s 3 (.dat .str)] (.f (.n (.f (.n (.f (.n (.j [4] [] [.s 3 (.dat .str)] (.f (.l [4] [] [.s 3 (.dat .str),.s 5 (.dat (.int .u32)),.s 6 (.dat (.int .i64))] 2 [4] [] [.s 3 (.dat .str)] (.f (.f (.f (.j [3,4,5,6] [] [.s 25 (.dat .bool)] .no))))))))))))))))))) Tryz.func100 [] (fun v vals x z ha hz=>.trans (by kernel_rfl) (Zdw hz)) ⟨ZDo,tr⟩)
end Go.Eng
set_option maxRecDepth 100000
set_option maxHeartbeats 4000000
namespace Go.Eng
open Go.Proofs Go.RowKit
noncomputable def Zfh:FuncId×Con:=(102,⟨[.leaf 4],[.leaf 1],fun p=>ZUb p⟩)
theorem ZPi:KQ Zfh:=Zh (Zx (C:=cf2 [(43,1),(45,4)] []) .no Tryz.func102 [] (fun v vals x z ha hz=>.trans (by kernel_rfl) (Zhx hz)))
theorem Zrv {x:Rat} {z:List UInt8} (h:Z7h x=some z):Zzs x=some z:=by
 unfold Z7h at h;split at h
 ·rename_i hh;obtain ⟨h1,h2⟩:=hh
  cases h
  unfold Zzs Z1f;have l1:=Z3i (n:=x.num.natAbs) (by omega);have l2:=Z3i (n:=x.den) (by omega);rw [if_pos (ZJd h1),Za];have e0:ifb (decide (x.num<0)) (bnd (ZYb x) fun y136=>some (!(y136))) (some false)=some (decide (x.num<0)):=by
   unfold ZYb;by_cases h:x.num<0
   ·have:x≠0:=fun e=>by subst e;simp at h
    rw [decide_eq_true h,Ze,Za,decide_eq_false this];rfl
   ·rw [decide_eq_false h,Zf]
  rw [e0,Za];have e1:ifb (decide (x.num<0)) (bnd (ZZa ([45]++Zya x.num.natAbs)) fun y80=>some (([45]:List UInt8)++Zya x.num.natAbs)) (some (Zya x.num.natAbs))=some ((if x.num<0 then [45] else [])++Zya x.num.natAbs):=by
   by_cases h:x.num<0
   ·rw [decide_eq_true h,Ze,ZOd (by simp;omega),Za,if_pos h]
   ·rw [decide_eq_false h,Zf,if_neg h];rfl
  rw [e1,Za];unfold txtQ ZUb Zrc;have l3:((if x.num<0 then [45] else [])++Zya x.num.natAbs:List UInt8).length≤4398046511105:=by
   rw [List.length_append];split <;> simp <;> omega
  generalize ((if x.num<0 then [45] else [])++Zya x.num.natAbs:List UInt8)=s at *;rw [Za,ZLm,Za,Za,Zqs];by_cases hd:x.den=1
  ·rw [hd];simp [ifb,bnd]
  ·have:=x.den_nz;rw [decide_eq_true (by omega),Ze,ZOd (by simp;omega),Za,if_pos (ZJd h2),Za,ZOd (by simp;omega),Za,Za,if_neg hd];simp
 ·cases h
end Go.Eng
set_option maxRecDepth 100000
set_option maxHeartbeats 4000000
namespace Go.Eng
open Go.Proofs Go.RowKit
noncomputable def Zvo:FuncId×Con:=(62,⟨[.leaf 4],[.str],fun p=>Z7h p⟩)
theorem rtext_k:KQ Zvo:=Zh (Zx (C:=cf2 [(43,1),(45,4)] [Zwk,ZRs,Zwi,Zfh]) (.n (.n (.two (.two (.j [1,3] [] [.s 13 (.dat .bool)] .no) (.j [1] [] [.s 3 (.dat .str)] .no)) (.f (.n (.j [] [] [.s 3 (.dat .str)] .no)))))) Tryz.func62 [] (fun v vals x z ha hz=>.trans (by kernel_rfl) (Zrv hz)) ⟨Z6m,ZRu,Z0j,ZPi,tr⟩)
end Go.Eng
set_option maxRecDepth 100000
set_option maxHeartbeats 4000000
namespace Go.Eng
open Go.Proofs Go.RowKit
noncomputable def is1_q:FuncId×Con:=(21,⟨[.leaf 3,.leaf 4],[.bool],fun p=>Zlf p.1 p.2⟩)
theorem is1_k:KQ is1_q:=Zh (Zv (C:=cf0 [Zul,Zvo] [] [] []) .no Tryz.func21 [] (fun _=>by kernel_rfl) ⟨Z1q,rtext_k,tr⟩)
end Go.Eng
set_option maxRecDepth 100000
set_option maxHeartbeats 4000000
namespace Go.Eng
open Go.Proofs Go.RowKit
noncomputable def Zqh:FuncId×Con:=(57,⟨[.pair (.leaf 4) (.pair (.leaf 4) (.pair (.leaf 4) (.leaf 4)))],[.bool],fun p=>ZTd p⟩)
theorem ZAk:KQ Zqh:=Zh (Zv (C:=cf0 [Zwk] [] [] []) (.n (.f (.j [] [] [.s 2 (.dat .bool)] .no))) Tryz.func57 [] (fun _=>by kernel_rfl) ⟨Z6m,tr⟩)
end Go.Eng
set_option maxRecDepth 100000
set_option maxHeartbeats 4000000
namespace Go.Eng
open Go.Proofs Go.RowKit
noncomputable def ZCt:FuncId×Con:=(148,⟨[.pair (.pair (.leaf 4) (.pair (.leaf 4) (.pair (.leaf 4) (.leaf 4)))) (.pair (.leaf 4) (.pair (.leaf 4) (.pair (.leaf 4) (.leaf 4))))],[.bool],fun p=>Zbt p⟩)
theorem wZero_k:KQ ZCt:=Zh (Zv (C:=cf0 [Zqh] [] [] []) (.n (.f (.j [] [] [.s 2 (.dat .bool)] .no))) Tryz.func148 [] (fun _=>by kernel_rfl) ⟨ZAk,tr⟩)
end Go.Eng
set_option maxRecDepth 100000
set_option maxHeartbeats 4000000
namespace Go.Eng
open Go.Proofs Go.RowKit
noncomputable def ZLn:FuncId×Con:=(136,⟨[.leaf 1,.leaf 1],[.leaf 1],fun p=>ZZe p.1 p.2⟩)
theorem Z7q:KQ ZLn:=Zh (Zx (C:=cf2 [(43,1),(45,4)] [ZAd]) (.n (.n (.n (.f (.n (.j [] [] [.s 5 (.own 154 (.int .u32)),.s 6 (.dat (.int .u64))] (.f (.l [0,1] [] [.s 5 (.own 154 (.int .u32)),.s 6 (.dat (.int .u64)),.s 7 (.dat (.int .i64))] 0 [] [] [.s 5 (.own 154 (.int .u32)),.s 6 (.dat (.int .u64))] (.f (.two (.f (.j [0,1,5,6,7] [] [.s 18 (.dat .bool)] .no)) (.f (.f (.two (.n (.j [0,1,5,7] [] [.s 6 (.dat (.int .u64))] .no)) (.f (.n (.j [0,1,5,7] [] [.s 6 (.dat (.int .u64))] .no)))))))))))))))) Tryz.func136 [] (fun v vals x z ha hz=>.trans (by kernel_rfl) (ZAu hz)) ⟨ZOe,tr⟩)
theorem radd_eq {x y:Rat} (h:smQ x) (h':smQ y):ZIm x y=some (x+y):=by
 obtain ⟨a1,a2⟩:=h;obtain ⟨b1,b2⟩:=h';unfold ZIm ZUb;have p1:=Zfb x.num.natAbs y.den;have p2:=Zfb y.num.natAbs x.den;have p3:=Zfb x.den y.den;have p4:=ZOn (x.num.natAbs*y.den) (y.num.natAbs*x.den);have hd:x.den*y.den≠0:=Nat.mul_ne_zero x.den_nz y.den_nz;have e1:Zpa x.num.natAbs y.den=some (x.num.natAbs*y.den):=by unfold Zpa;rw [if_pos ⟨ZPb (by omega),ZPb (by omega)⟩]
 have e2:Zpa y.num.natAbs x.den=some (y.num.natAbs*x.den):=by unfold Zpa;rw [if_pos ⟨ZPb (by omega),ZPb (by omega)⟩]
 have e3:Zpa x.den y.den=some (x.den*y.den):=by unfold Zpa;rw [if_pos ⟨ZPb (by omega),ZPb (by omega)⟩]
 have eN:((x.num.natAbs*y.den:Nat):Int)=(x.num.natAbs:Int)*y.den:=by simp
 have eM:((y.num.natAbs*x.den:Nat):Int)=(y.num.natAbs:Int)*x.den:=by simp
 have key:∀ (s:Bool) (n:Nat),bl n≤1099511627776→sgn s n=x.num*y.den+y.num*x.den→ZLa s n (x.den*y.den)=some (x+y):=by
  intro s n hn he;unfold ZLa;rw [if_pos ⟨ZJd hn,ZJd (by omega),hd⟩,he,← Rat.add_def']
 rw [Za,Za,e1,Za,e2,Za,e3];obtain ⟨N,hN⟩:∃ N,N=x.num.natAbs*y.den:=⟨_,rfl⟩;obtain ⟨M,hM⟩:∃ M,M=y.num.natAbs*x.den:=⟨_,rfl⟩;rw [← hN] at p1 p4 eN ⊢;rw [← hM] at p2 p4 eM ⊢;have sx:x.num*(y.den:Int)=if x.num<0 then -(N:Int) else N:=by
  split
  ·rw [eN,← Int.neg_mul];congr 1;omega
  ·rw [eN];congr 1;omega
 have sy:y.num*(x.den:Int)=if y.num<0 then -(M:Int) else M:=by
  split
  ·rw [eM,← Int.neg_mul];congr 1;omega
  ·rw [eM];congr 1;omega
 by_cases hs:(x.num<0)↔(y.num<0)
 ·have e4:ZZe N M=some (N+M):=by unfold ZZe;rw [if_pos ⟨ZPb (by omega),ZPb (by omega)⟩]
  have e5:((decide (x.num<0))==(decide (y.num<0)))=true:=by
   by_cases h:x.num<0
   ·simp [h,hs.1 h]
   ·have h2:¬ y.num<0:=fun k=>h (hs.2 k);simp [h,h2]
  rw [e5,Ze,e4,Za,Za,key _ _ (by omega) ?_,Za];rw [sx,sy];unfold sgn;by_cases h:x.num<0
  ·have h2:=hs.1 h;simp [h,h2];omega
  ·have h2:¬ y.num<0:=fun k=>h (hs.2 k);simp [h,h2]
 ·have e5:((decide (x.num<0))==(decide (y.num<0)))=false:=by
   apply beq_false_of_ne;intro h;exact hs (by by_cases k:x.num<0 <;> by_cases k2:y.num<0 <;> simp_all)
  rw [e5,Zf];unfold Zrc;rw [Za];by_cases hle:M≤N
  ·have e6:decide ((0:Int)≤Z4 N M)=true:=by
    unfold Z4;rw [if_neg (by omega)];split <;> rfl
   have e4:Zyb N M=some (N-M):=by unfold Zyb;rw [if_pos ⟨ZPb (by omega),hle⟩]
   have hb:bl (N-M)≤bl N:=Zfe (by omega);rw [e6,Ze,e4,Za,Za,key _ _ (by omega) ?_,Za];rw [sx,sy];unfold sgn;by_cases h:x.num<0
   ·have h2:¬ y.num<0:=fun k=>hs ⟨fun _=>k,fun _=>h⟩;simp [h,h2];omega
   ·have h2:y.num<0:=by
     rcases Int.lt_or_le y.num 0 with k | k
     ·exact k
     ·exact absurd ⟨fun q=>absurd q h,fun q=>absurd q (by omega)⟩ hs
    simp [h,h2];omega
  ·have e6:decide ((0:Int)≤Z4 N M)=false:=by
    unfold Z4;rw [if_pos (by omega)];rfl
   have e4:Zyb M N=some (M-N):=by unfold Zyb;rw [if_pos ⟨ZPb (by omega),by omega⟩]
   have hb:bl (M-N)≤bl M:=Zfe (by omega);rw [e6,Zf,e4,Za,Za,key _ _ (by omega) ?_,Za];rw [sx,sy];unfold sgn;by_cases h:x.num<0
   ·have h2:¬ y.num<0:=fun k=>hs ⟨fun _=>k,fun _=>h⟩;simp [h,h2];omega
   ·have h2:y.num<0:=by
     rcases Int.lt_or_le y.num 0 with k | k
     ·exact k
     ·exact absurd ⟨fun q=>absurd q h,fun q=>absurd q (by omega)⟩ hs
    simp [h,h2];omega
theorem Zcx {x y z:Rat} (h:ZR x y=some z):ZIm x y=some z:=by
 unfold ZR at h;split at h
 ·rename_i hh;rw [radd_eq hh.1 hh.2,h]
 ·cases h
end Go.Eng
set_option maxRecDepth 100000
set_option maxHeartbeats 4000000
namespace Go.Eng
open Go.Proofs Go.RowKit
noncomputable def Zik:FuncId×Con:=(103,⟨[.leaf 4,.leaf 4],[.leaf 4],fun p=>ZR p.1 p.2⟩)
theorem ZJm:KQ Zik:=Zh (Zx (C:=cf2 [(43,1),(45,4)] [Z8d,Zwi,Zfh,ZKj,ZLn,Zmn]) .no Tryz.func103 [] (fun v vals x z ha hz=>.trans (by kernel_rfl) (Zcx hz)) ⟨ZCe,Z0j,ZPi,Zil,Z7q,ZEs,tr⟩)
end Go.Eng
set_option maxRecDepth 100000
set_option maxHeartbeats 4000000
namespace Go.Eng
open Go.Proofs Go.RowKit
noncomputable def ZAn:FuncId×Con:=(63,⟨[.pair (.leaf 4) (.pair (.leaf 4) (.pair (.leaf 4) (.leaf 4))),.pair (.leaf 4) (.pair (.leaf 4) (.pair (.leaf 4) (.leaf 4)))],[.pair (.leaf 4) (.pair (.leaf 4) (.pair (.leaf 4) (.leaf 4)))],fun p=>ZSh p.1 p.2⟩)
theorem Zxo:KQ ZAn:=Zh (Zv (C:=cf0 [Zik] [] [] []) .no Tryz.func63 [] (fun _=>by kernel_rfl) ⟨ZJm,tr⟩)
theorem rneg_eq {x:Rat} (h:okQ x):Zum x=some (-x):=by
 obtain ⟨h1,h2⟩:=h;unfold Zum ZUb ZLa;rw [Za,if_pos ⟨ZJd h1,ZJd h2,x.den_nz⟩,Za];congr 1;have e:sgn (!(decide (x.num<0))) x.num.natAbs = -x.num:=by
  unfold sgn;by_cases h:x.num<0
  ·simp [h];omega
  ·simp [h];omega
 rw [e];exact Rat.mkRat_self (-x)
theorem Zxu {x z:Rat} (h:Z9c x=some z):Zum x=some z:=by
 unfold Z9c at h;split at h
 ·rename_i hh;rw [rneg_eq hh,h]
 ·cases h
end Go.Eng
set_option maxRecDepth 100000
set_option maxHeartbeats 4000000
namespace Go.Eng
open Go.Proofs Go.RowKit
noncomputable def ZEp:FuncId×Con:=(107,⟨[.leaf 4],[.leaf 4],fun p=>Z9c p⟩)
theorem rneg_k:KQ ZEp:=Zh (Zx (C:=cf2 [(43,1),(45,4)] [Z8d,Zfh]) .no Tryz.func107 [] (fun v vals x z ha hz=>.trans (by kernel_rfl) (Zxu hz)) ⟨ZCe,ZPi,tr⟩)
end Go.Eng
set_option maxRecDepth 100000
set_option maxHeartbeats 4000000
namespace Go.Eng
open Go.Proofs Go.RowKit
noncomputable def ZKq:FuncId×Con:=(76,⟨[.pair (.leaf 4) (.pair (.leaf 4) (.pair (.leaf 4) (.leaf 4)))],[.pair (.leaf 4) (.pair (.leaf 4) (.pair (.leaf 4) (.leaf 4)))],fun p=>ZJi p⟩)
theorem sNeg_k:KQ ZKq:=Zh (Zv (C:=cf0 [ZEp] [] [] []) .no Tryz.func76 [] (fun _=>by kernel_rfl) ⟨rneg_k,tr⟩)
end Go.Eng
set_option maxRecDepth 100000
set_option maxHeartbeats 4000000
namespace Go.Eng
open Go.Proofs Go.RowKit
noncomputable def Zqj:FuncId×Con:=(74,⟨[.pair (.leaf 4) (.pair (.leaf 4) (.pair (.leaf 4) (.leaf 4))),.pair (.leaf 4) (.pair (.leaf 4) (.pair (.leaf 4) (.leaf 4)))],[.pair (.leaf 4) (.pair (.leaf 4) (.pair (.leaf 4) (.leaf 4)))],fun p=>Zef p.1 p.2⟩)
theorem Zhl:KQ Zqj:=Zh (Zv (C:=cf0 [ZAn,ZKq] [] [] []) .no Tryz.func74 [] (fun _=>by kernel_rfl) ⟨Zxo,sNeg_k,tr⟩)
end Go.Eng
set_option maxRecDepth 100000
set_option maxHeartbeats 4000000
namespace Go.Eng
open Go.Proofs Go.RowKit
noncomputable def Zft:FuncId×Con:=(149,⟨[.pair (.pair (.leaf 4) (.pair (.leaf 4) (.pair (.leaf 4) (.leaf 4)))) (.pair (.leaf 4) (.pair (.leaf 4) (.pair (.leaf 4) (.leaf 4)))),.pair (.pair (.leaf 4) (.pair (.leaf 4) (.pair (.leaf 4) (.leaf 4)))) (.pair (.leaf 4) (.pair (.leaf 4) (.pair (.leaf 4) (.leaf 4))))],[.pair (.pair (.leaf 4) (.pair (.leaf 4) (.pair (.leaf 4) (.leaf 4)))) (.pair (.leaf 4) (.pair (.leaf 4) (.pair (.leaf 4) (.leaf 4))))],fun p=>ZYq p.1 p.2⟩)
theorem wSub_k:KQ Zft:=Zh (Zv (C:=cf0 [Zqj] [] [] []) .no Tryz.func149 [] (fun _=>by kernel_rfl) ⟨Zhl,tr⟩)
end Go.Eng
set_option maxRecDepth 100000
set_option maxHeartbeats 4000000
namespace Go.Eng
open Go.Proofs Go.RowKit
noncomputable def ZUp:FuncId×Con:=(117,⟨[.pair (.pair (.leaf 4) (.pair (.leaf 4) (.pair (.leaf 4) (.leaf 4)))) (.pair (.leaf 4) (.pair (.leaf 4) (.pair (.leaf 4) (.leaf 4)))),.pair (.pair (.leaf 4) (.pair (.leaf 4) (.pair (.leaf 4) (.leaf 4)))) (.pair (.leaf 4) (.pair (.leaf 4) (.pair (.leaf 4) (.leaf 4))))],[.bool],fun p=>Zut p.1 p.2⟩)
theorem wSame_k:KQ ZUp:=Zh (Zv (C:=cf0 [ZCt,Zft] [] [] []) .no Tryz.func117 [] (fun _=>by kernel_rfl) ⟨wZero_k,wSub_k,tr⟩)
end Go.Eng
set_option maxRecDepth 100000
set_option maxHeartbeats 4000000
namespace Go.Eng
open Go.Proofs Go.RowKit
noncomputable def is2_q:FuncId×Con:=(87,⟨[.slice (.leaf 3),.slice (.pair (.pair (.leaf 4) (.pair (.leaf 4) (.pair (.leaf 4) (.leaf 4)))) (.pair (.leaf 4) (.pair (.leaf 4) (.pair (.leaf 4) (.leaf 4)))))],[.bool],fun p=>is2_m p.1 p.2⟩)
theorem is2_k:KQ is2_q:=Zh (Zv (C:=cf0 [is1_q,Zyn,ZUp] [] [] []) (.n (.n (.f (.n (.f (.cut ⟨⟨[0,1,12],[],[.s 13 (.dat (.int .i64))]⟩,[(.exit 0,⟨[],[],[]⟩),(.ret,⟨[],[],[.s 1000 (.dat .bool)]⟩)]⟩ (.f (.n (.n (.f (.f (.n (.f (.j [0,1,12,13] [] [.s 42 (.dat .bool)] .no)))))))))))))) Tryz.func87 [] (fun _=>by kernel_rfl) ⟨is1_k,Zoo,wSame_k,tr⟩)
end Go.Eng
set_option maxRecDepth 100000
set_option maxHeartbeats 4000000
namespace Go.Eng
open Go.Proofs Go.RowKit
noncomputable def ZVq:FuncId×Con:=(41,⟨[.slice (.slice (.leaf 3)),.slice (.slice (.pair (.pair (.leaf 4) (.pair (.leaf 4) (.pair (.leaf 4) (.leaf 4)))) (.pair (.leaf 4) (.pair (.leaf 4) (.pair (.leaf 4) (.leaf 4))))))],[.bool],fun p=>Zrm p.1 p.2⟩)
theorem ZSx:KQ ZVq:=Zh (Zv (C:=cf0 [is2_q] [] [] []) (.n (.n (.f (.n (.f (.cut ⟨⟨[0,1,12],[],[.s 13 (.dat (.int .i64))]⟩,[(.exit 0,⟨[],[],[]⟩),(.ret,⟨[],[],[.s 1000 (.dat .bool)]⟩)]⟩ .no)))))) Tryz.func41 [] (fun _=>by kernel_rfl) ⟨is2_k,tr⟩)
end Go.Eng
set_option maxRecDepth 100000
set_option maxHeartbeats 4000000
namespace Go.Eng
open Go.Proofs Go.RowKit
noncomputable def Zup:FuncId×Con:=(8,⟨[],[.bool],fun _=>ZPg⟩)
theorem Zxw:KQ Zup:=Zh (Zv (C:=cf0 [Zem,Zan,ZSk,Zrp,Z7r,Zlo,ZVq,Zul] [] [] []) (.n (.n (.n (.n (.n (.n (.n (.n (.f (.j [] [] [.s 0 (.dat .bool)] .no)))))))))) Tryz.func8 [] (fun _=>by kernel_rfl) ⟨Zpr,Zro,Zls,ZMt,ZKx,ZDt,ZSx,Z1q,tr⟩)
end Go.Eng
set_option maxRecDepth 100000
set_option maxHeartbeats 4000000
namespace Go.Eng
open Go.Proofs Go.RowKit
noncomputable def Zdl:FuncId×Con:=(19,⟨[.pair (.slice (.slice (.pair (.leaf 4) (.pair (.leaf 4) (.pair (.leaf 4) (.leaf 4)))))) (.pair (.slice (.pair (.leaf 4) (.pair (.leaf 4) (.pair (.leaf 4) (.leaf 4))))) (.slice (.pair (.leaf 4) (.pair (.leaf 4) (.pair (.leaf 4) (.leaf 4))))))],[.bool],fun p=>Zsd p⟩)
theorem Ziq:KQ Zdl:=Zh (Zv (C:=cf0 [] [] [] []) (.n (.two (.f (.j [1] [] [.s 22 (.dat .bool)] .no)) (.f (.n (.f (.cut ⟨⟨[1],[],[.s 3 (.dat (.int .i64))]⟩,[(.exit 0,⟨[],[],[]⟩),(.ret,⟨[],[],[.s 1000 (.dat .bool)]⟩)]⟩ .no)))))) Tryz.func19 [] (fun _=>by kernel_rfl))
theorem Zlv {x y z:Rat} (h:ZQ x y=some z):ZCs x y=some z:=by
 unfold ZQ at h;split at h
 ·rename_i hh;obtain ⟨⟨a1,a2⟩,b1,b2⟩:=hh
  cases h
  unfold ZCs ZUb;have p1:=Zfb x.num.natAbs y.num.natAbs;have p3:=Zfb x.den y.den;have e1:Zpa x.num.natAbs y.num.natAbs=some (x.num.natAbs*y.num.natAbs):=by unfold Zpa;rw [if_pos ⟨ZPb (by omega),ZPb (by omega)⟩]
  have e3:Zpa x.den y.den=some (x.den*y.den):=by unfold Zpa;rw [if_pos ⟨ZPb (by omega),ZPb (by omega)⟩]
  rw [e1,Za,Za,Za,e3,Za];unfold ZLa;rw [if_pos ⟨ZJd (by omega),ZJd (by omega),Nat.mul_ne_zero x.den_nz y.den_nz⟩,Za];have e:sgn ((decide (x.num<0)) != (decide (y.num<0))) (x.num.natAbs*y.num.natAbs)=x.num*y.num:=by
   have eN:((x.num.natAbs*y.num.natAbs:Nat):Int)=(x.num.natAbs:Int)*y.num.natAbs:=by simp
   unfold sgn;rw [eN];by_cases h:x.num<0
   ·have hx:(x.num.natAbs:Int) = -x.num:=by omega
    by_cases h2:y.num<0
    ·have hy:(y.num.natAbs:Int) = -y.num:=by omega
     simp [h,h2,hx,hy,Int.neg_mul,Int.mul_neg]
    ·have hy:(y.num.natAbs:Int)=y.num:=by omega
     simp [h,h2,hx,hy,Int.neg_mul,Int.mul_neg]
   ·have hx:(x.num.natAbs:Int)=x.num:=by omega
    by_cases h2:y.num<0
    ·have hy:(y.num.natAbs:Int) = -y.num:=by omega
     simp [h,h2,hx,hy,Int.neg_mul,Int.mul_neg]
    ·have hy:(y.num.natAbs:Int)=y.num:=by omega
     simp [h,h2,hx,hy,Int.neg_mul,Int.mul_neg]
  rw [e,← Rat.mul_def']
 ·cases h
end Go.Eng
set_option maxRecDepth 100000
set_option maxHeartbeats 4000000
namespace Go.Eng
open Go.Proofs Go.RowKit
noncomputable def Zhm:FuncId×Con:=(104,⟨[.leaf 4,.leaf 4],[.leaf 4],fun p=>ZQ p.1 p.2⟩)
theorem Zxt:KQ Zhm:=Zh (Zx (C:=cf2 [(43,1),(45,4)] [Z8d,Zfh,ZKj]) .no Tryz.func104 [] (fun v vals x z ha hz=>.trans (by kernel_rfl) (Zlv hz)) ⟨ZCe,ZPi,Zil,tr⟩)
end Go.Eng
set_option maxRecDepth 100000
set_option maxHeartbeats 4000000
namespace Go.Eng
open Go.Proofs Go.RowKit
noncomputable def Zzr:FuncId×Con:=(64,⟨[.pair (.leaf 4) (.pair (.leaf 4) (.pair (.leaf 4) (.leaf 4))),.pair (.leaf 4) (.pair (.leaf 4) (.pair (.leaf 4) (.leaf 4)))],[.pair (.leaf 4) (.pair (.leaf 4) (.pair (.leaf 4) (.leaf 4)))],fun p=>Znk p.1 p.2⟩)
theorem sMul_k:KQ Zzr:=Zh (Zv (C:=cf0 [ZXg,ZMf,Zik,Zhm] [] [] []) (.n (.n (.f (.n (.f (.unroll 5 (.f (.n (.f (.f (.n (.f (.unroll 5 .no))))))))))))) Tryz.func64 [] (fun _=>by kernel_rfl) ⟨ZCh,ZKg,ZJm,Zxt,tr⟩)
end Go.Eng
set_option maxRecDepth 100000
set_option maxHeartbeats 4000000
namespace Go.Eng
open Go.Proofs Go.RowKit
noncomputable def Zfi:FuncId×Con:=(22,⟨[.slice (.pair (.leaf 4) (.pair (.leaf 4) (.pair (.leaf 4) (.leaf 4)))),.slice (.pair (.leaf 4) (.pair (.leaf 4) (.pair (.leaf 4) (.leaf 4))))],[.pair (.leaf 4) (.pair (.leaf 4) (.pair (.leaf 4) (.leaf 4)))],fun p=>Zmb p.1 p.2⟩)
theorem Z8i:KQ Zfi:=Zh (Zv (C:=cf0 [ZXg,ZMf,ZAn,Zzr] [] [] []) (.n (.n (.f (.n (.f (.l [0,1,4,5] [] [.s 6 (.dat (.int .i64)),.l (.sl 5) (.box 47 (.dat (.pair (.leaf 4) (.pair (.leaf 4) (.pair (.leaf 4) (.leaf 4))))))] 0 [4,5] [] [.l (.sl 5) (.box 47 (.dat (.pair (.leaf 4) (.pair (.leaf 4) (.pair (.leaf 4) (.leaf 4))))))] .no)))))) Tryz.func22 [] (fun _=>by kernel_rfl) ⟨ZCh,ZKg,Zxo,sMul_k,tr⟩)
theorem Zru {x:Rat} {z:Int} (h:Zhd x=some z):Zlp x=some z:=by
 unfold Zhd at h
 cases h
 unfold Zlp ZYb;rw [Za];by_cases h0:x=0
 ·subst h0;rfl
 ·have:=Zpp h0;rw [decide_eq_false h0,Zf];by_cases h1:x.num<0
  ·rw [decide_eq_true h1,Ze,Int.sign_eq_neg_one_of_neg h1]
  ·rw [decide_eq_false h1,Zf,Int.sign_eq_one_of_pos (by omega)]
end Go.Eng
set_option maxRecDepth 100000
set_option maxHeartbeats 4000000
namespace Go.Eng
open Go.Proofs Go.RowKit
noncomputable def ZHn:FuncId×Con:=(99,⟨[.leaf 4],[.int .i64],fun p=>Zhd p⟩)
theorem ZRq:KQ ZHn:=Zh (Zx (C:=cf2 [(43,1),(45,4)] [Zwk]) .no Tryz.func99 [] (fun v vals x z ha hz=>.trans (by kernel_rfl) (Zru hz)) ⟨Z6m,tr⟩)
end Go.Eng
set_option maxRecDepth 100000
set_option maxHeartbeats 4000000
namespace Go.Eng
open Go.Proofs Go.RowKit
noncomputable def Zkp:FuncId×Con:=(167,⟨[.int .i64],[.leaf 4],fun p=>Z7o p⟩)
theorem runit_k:KQ Zkp:=Zh (Zv (C:=cf0 [Z8d,Z5g] [] [] []) .no Tryz.func167 [] (fun _=>by kernel_rfl) ⟨ZCe,ZDi,tr⟩)
end Go.Eng
set_option maxRecDepth 100000
set_option maxHeartbeats 4000000
namespace Go.Eng
open Go.Proofs Go.RowKit
noncomputable def Zos:FuncId×Con:=(132,⟨[.int .i64],[.leaf 4],fun p=>Zam p⟩)
theorem Ztx:KQ Zos:=Zh (Zv (C:=cf0 [Z8d,Z5g,Zkp] [] [] []) .no Tryz.func132 [] (fun _=>by kernel_rfl) ⟨ZCe,ZDi,runit_k,tr⟩)
end Go.Eng
set_option maxRecDepth 100000
set_option maxHeartbeats 4000000
namespace Go.Eng
open Go.Proofs Go.RowKit
noncomputable def Zzq:FuncId×Con:=(168,⟨[.leaf 1],[.leaf 1],fun p=>Zcr p⟩)
theorem rRoot_k:KQ Zzq:=Zh (Zv (C:=cf0 [Zwi,ZVj,ZLn,ZDm,Z5g,Zim] [] [] []) (.n (.n (.n (.f (.cut ⟨⟨[0],[],[.s 3 (.dat (.leaf 1))]⟩,[(.ret,⟨[],[],[.s 1000 (.dat (.leaf 1))]⟩)]⟩ .no))))) Tryz.func168 [] (fun _=>by kernel_rfl) ⟨Z0j,Z5l,Z7q,ZUs,ZDi,Z6r,tr⟩)
end Go.Eng
set_option maxRecDepth 100000
set_option maxHeartbeats 4000000
namespace Go.Eng
open Go.Proofs Go.RowKit
noncomputable def Zyo:FuncId×Con:=(133,⟨[.int .u64,.int .i64],[.leaf 4],fun p=>ZHf p.1 p.2⟩)
theorem Zpu:KQ Zyo:=Zh (Zv (C:=cf0 [Z8d,ZXj,Z5g,Zzq] [] [] []) .no Tryz.func133 [] (fun _=>by kernel_rfl) ⟨ZCe,Zyl,ZDi,rRoot_k,tr⟩)
end Go.Eng
set_option maxRecDepth 100000
set_option maxHeartbeats 4000000
namespace Go.Eng
open Go.Proofs Go.RowKit
noncomputable def Zbs:FuncId×Con:=(98,⟨[.pair (.leaf 4) (.pair (.leaf 4) (.pair (.leaf 4) (.leaf 4))),.int .i64],[.leaf 4,.leaf 4],fun p=>Zyj p.1 p.2⟩)
theorem Zix:KQ Zbs:=Zh (Zv (C:=cf0 [ZHn,Zik,Zhm,Zos,Zyo] [] [] []) (.n (.n (.n (.n (.f (.n (.f (.unroll 4 (.f (.n (.f (.f (.n (.n (.f (.n (.j [1,2,4,5,6,7,8,9,10,12,13] [] [.l (.sl 12) (.box 45 (.dat (.leaf 4))),.l (.sl 13) (.box 45 (.dat (.leaf 4)))] .no))))))))))))))))) Tryz.func98 [] (fun _=>by kernel_rfl) ⟨ZRq,ZJm,Zxt,Ztx,Zpu,tr⟩)
end Go.Eng
set_option maxRecDepth 100000
set_option maxHeartbeats 4000000
namespace Go.Eng
open Go.Proofs Go.RowKit
noncomputable def Zvk:FuncId×Con:=(59,⟨[.pair (.leaf 4) (.pair (.leaf 4) (.pair (.leaf 4) (.leaf 4)))],[.int .i64],fun p=>Ztd p⟩)
theorem ZBn:KQ Zvk:=Zh (Zv (C:=cf0 [Zqh,Zbs,ZHn] [] [] []) (.n (.n (.n (.f (.cut ⟨⟨[1],[],[.s 3 (.dat (.int .i64))]⟩,[(.ret,⟨[],[],[.s 1000 (.dat (.int .i64))]⟩)]⟩ .no))))) Tryz.func59 [] (fun _=>by kernel_rfl) ⟨ZAk,Zix,ZRq,tr⟩)
end Go.Eng
set_option maxRecDepth 100000
set_option maxHeartbeats 4000000
namespace Go.Eng
open Go.Proofs Go.RowKit
noncomputable def Zzk:FuncId×Con:=(58,⟨[.slice (.pair (.leaf 4) (.pair (.leaf 4) (.pair (.leaf 4) (.leaf 4))))],[.bool],fun p=>Ztf p⟩)
theorem Z2k:KQ Zzk:=Zh (Zv (C:=cf0 [Zvk] [] [] []) (.n (.f (.n (.f (.cut ⟨⟨[0],[],[.s 3 (.dat (.int .i64))]⟩,[(.exit 0,⟨[],[],[]⟩),(.ret,⟨[],[],[.s 1000 (.dat .bool)]⟩)]⟩ .no))))) Tryz.func58 [] (fun _=>by kernel_rfl) ⟨ZBn,tr⟩)
end Go.Eng
set_option maxRecDepth 100000
set_option maxHeartbeats 4000000
namespace Go.Eng
open Go.Proofs Go.RowKit
noncomputable def Z6l:FuncId×Con:=(61,⟨[.pair (.leaf 4) (.pair (.leaf 4) (.pair (.leaf 4) (.leaf 4))),.pair (.leaf 4) (.pair (.leaf 4) (.pair (.leaf 4) (.leaf 4)))],[.int .i64],fun p=>Zzi p.1 p.2⟩)
theorem Zuo:KQ Z6l:=Zh (Zv (C:=cf0 [Zvk,Zqj] [] [] []) .no Tryz.func61 [] (fun _=>by kernel_rfl) ⟨ZBn,Zhl,tr⟩)
end Go.Eng
set_option maxRecDepth 100000
set_option maxHeartbeats 4000000
namespace Go.Eng
open Go.Proofs Go.RowKit
noncomputable def ZSl:FuncId×Con:=(20,⟨[.pair (.slice (.slice (.pair (.leaf 4) (.pair (.leaf 4) (.pair (.leaf 4) (.leaf 4)))))) (.pair (.slice (.pair (.leaf 4) (.pair (.leaf 4) (.pair (.leaf 4) (.leaf 4))))) (.slice (.pair (.leaf 4) (.pair (.leaf 4) (.pair (.leaf 4) (.leaf 4)))))),.slice (.pair (.leaf 4) (.pair (.leaf 4) (.pair (.leaf 4) (.leaf 4))))],[.bool],fun p=>Zkf p.1 p.2⟩)
theorem Zds:KQ ZSl:=Zh (Zv (C:=cf0 [Zfi,Zzk,Z6l] [] [] []) (.n (.f (.n (.f (.cut ⟨⟨[1,2],[],[.s 5 (.dat (.int .i64))]⟩,[(.exit 0,⟨[1],[],[]⟩),(.ret,⟨[],[],[.s 1000 (.dat .bool)]⟩)]⟩ .no))))) Tryz.func20 [] (fun _=>by kernel_rfl) ⟨Z8i,Z2k,Zuo,tr⟩)
end Go.Eng
set_option maxRecDepth 100000
set_option maxHeartbeats 4000000
namespace Go.Eng
open Go.Proofs Go.RowKit
noncomputable def Z8l:FuncId×Con:=(60,⟨[.slice (.slice (.pair (.leaf 4) (.pair (.leaf 4) (.pair (.leaf 4) (.leaf 4))))),.int .i64],[.slice (.pair (.leaf 4) (.pair (.leaf 4) (.pair (.leaf 4) (.leaf 4))))],fun p=>Zki p.1 p.2⟩)
theorem Zvq:KQ Z8l:=Zh (Zv (C:=cf0 [] [] [] []) (.n (.n (.f (.n (.f (.l [0,1] [] [.s 5 (.own 47 (.pair (.leaf 4) (.pair (.leaf 4) (.pair (.leaf 4) (.leaf 4))))),.s 6 (.dat (.int .i64))] 0 [] [] [.s 5 (.own 47 (.pair (.leaf 4) (.pair (.leaf 4) (.pair (.leaf 4) (.leaf 4)))))] .no)))))) Tryz.func60 [] (fun _=>by kernel_rfl))
end Go.Eng
set_option maxRecDepth 100000
set_option maxHeartbeats 4000000
namespace Go.Eng
open Go.Proofs Go.RowKit
noncomputable def Zom:FuncId×Con:=(24,⟨[.pair (.slice (.slice (.pair (.leaf 4) (.pair (.leaf 4) (.pair (.leaf 4) (.leaf 4)))))) (.pair (.slice (.pair (.leaf 4) (.pair (.leaf 4) (.pair (.leaf 4) (.leaf 4))))) (.slice (.pair (.leaf 4) (.pair (.leaf 4) (.pair (.leaf 4) (.leaf 4)))))),.slice (.pair (.leaf 4) (.pair (.leaf 4) (.pair (.leaf 4) (.leaf 4))))],[.bool],fun p=>Zbh p.1 p.2⟩)
theorem ZBs:KQ Zom:=Zh (Zv (C:=cf0 [Zfi,Zzk,Z8l,Z6l] [] [] []) (.n (.two (.f (.j [1,2] [] [.s 16 (.dat .bool)] .no)) (.f (.n (.f (.cut ⟨⟨[1,2],[],[.s 5 (.dat (.int .i64))]⟩,[(.exit 0,⟨[],[],[]⟩),(.ret,⟨[],[],[.s 1000 (.dat .bool)]⟩)]⟩ .no)))))) Tryz.func24 [] (fun _=>by kernel_rfl) ⟨Z8i,Z2k,Zvq,Zuo,tr⟩)
end Go.Eng
set_option maxRecDepth 100000
set_option maxHeartbeats 4000000
namespace Go.Eng
open Go.Proofs Go.RowKit
noncomputable def ZJs:FuncId×Con:=(56,⟨[.pair (.leaf 4) (.pair (.leaf 4) (.pair (.leaf 4) (.leaf 4))),.pair (.leaf 4) (.pair (.leaf 4) (.pair (.leaf 4) (.leaf 4)))],[.bool],fun p=>Zdg p.1 p.2⟩)
theorem sSame_k:KQ ZJs:=Zh (Zv (C:=cf0 [Zqh,Zqj] [] [] []) .no Tryz.func56 [] (fun _=>by kernel_rfl) ⟨ZAk,Zhl,tr⟩)
end Go.Eng
set_option maxRecDepth 100000
set_option maxHeartbeats 4000000
namespace Go.Eng
open Go.Proofs Go.RowKit
noncomputable def ZSo:FuncId×Con:=(16,⟨[.pair (.slice (.slice (.pair (.leaf 4) (.pair (.leaf 4) (.pair (.leaf 4) (.leaf 4)))))) (.pair (.slice (.pair (.leaf 4) (.pair (.leaf 4) (.pair (.leaf 4) (.leaf 4))))) (.slice (.pair (.leaf 4) (.pair (.leaf 4) (.pair (.leaf 4) (.leaf 4)))))),.pair (.int .i64) (.pair (.pair (.leaf 4) (.pair (.leaf 4) (.pair (.leaf 4) (.leaf 4)))) (.pair (.slice (.pair (.leaf 4) (.pair (.leaf 4) (.pair (.leaf 4) (.leaf 4))))) (.pair (.slice (.pair (.leaf 4) (.pair (.leaf 4) (.pair (.leaf 4) (.leaf 4))))) (.slice (.pair (.leaf 4) (.pair (.leaf 4) (.pair (.leaf 4) (.leaf 4))))))))],[.bool],fun p=>Zkg p.1 p.2⟩)
theorem ZLu:KQ ZSo:=Zh (Zv (C:=cf0 [Zdl,ZSl,Zfi,Zom,ZJs,Zqh,Zzk,Zvk,Z8l] [] [] []) (.n (.n (.two (.n (.f (.f (.j [] [] [.s 4 (.dat .bool)] .no)))) (.n (.two (.n (.f (.two (.f (.j [2,3] [] [.s 98 (.dat .bool)] .no)) (.f (.n (.f (.cut ⟨⟨[2,3],[],[.s 5 (.dat (.int .i64))]⟩,[(.exit 0,⟨[],[],[]⟩),(.ret,⟨[],[],[.s 1000 (.dat .bool)]⟩)]⟩ .no))))))) (.two (.f (.j [2,3] [] [.s 154 (.dat .bool)] .no)) (.f (.n (.f (.cut ⟨⟨[2,3],[],[.s 6 (.dat (.int .i64))]⟩,[(.exit 2,⟨[2,3],[],[]⟩),(.ret,⟨[],[],[.s 1000 (.dat .bool)]⟩)]⟩ .no)))))))))) Tryz.func16 [] (fun _=>by kernel_rfl) ⟨Ziq,Zds,Z8i,ZBs,sSame_k,ZAk,Z2k,ZBn,Zvq,tr⟩)
end Go.Eng
set_option maxRecDepth 100000
set_option maxHeartbeats 4000000
namespace Go.Eng
open Go.Proofs Go.RowKit
noncomputable def ZOs:FuncId×Con:=(17,⟨[.pair (.slice (.slice (.leaf 3))) (.pair (.slice (.leaf 3)) (.slice (.leaf 3))),.slice (.leaf 3)],[.leaf 3,.int .i64],fun p=>ZZd p.1 p.2⟩)
theorem Z6u:KQ ZOs:=Zh (Zv (C:=cf0 [Zqg,ZYh] [] [] []) (.n (.f (.f (.j [1,2,4] [] [.s 17 (.dat .bool)] .no)))) Tryz.func17 [] (fun _=>by kernel_rfl) ⟨Zci,ZPj,tr⟩)
end Go.Eng
set_option maxRecDepth 100000
set_option maxHeartbeats 4000000
namespace Go.Eng
open Go.Proofs Go.RowKit
noncomputable def Zfo:FuncId×Con:=(18,⟨[.pair (.slice (.slice (.leaf 3))) (.pair (.slice (.leaf 3)) (.slice (.leaf 3))),.slice (.leaf 3)],[.bool,.int .i64],fun p=>Zhe p.1 p.2⟩)
theorem ZOu:KQ Zfo:=Zh (Zv (C:=cf0 [Zqg,Z3l] [] [] []) (.n (.f (.f (.j [1,2] [] [.s 16 (.dat .bool)] .no)))) Tryz.func18 [] (fun _=>by kernel_rfl) ⟨Zci,Z6p,tr⟩)
end Go.Eng
set_option maxRecDepth 100000
set_option maxHeartbeats 4000000
namespace Go.Eng
open Go.Proofs Go.RowKit
noncomputable def Zpq:FuncId×Con:=(23,⟨[.pair (.slice (.slice (.leaf 3))) (.pair (.slice (.leaf 3)) (.slice (.leaf 3))),.slice (.leaf 3)],[.leaf 3,.bool],fun p=>ZBf p.1 p.2⟩)
theorem Z9u:KQ Zpq:=Zh (Zv (C:=cf0 [Zqg,Zel,ZYh] [] [] []) (.n (.f (.f (.j [1,2,4] [] [.s 15 (.dat .bool)] .no)))) Tryz.func23 [] (fun _=>by kernel_rfl) ⟨Zci,ZLr,ZPj,tr⟩)
end Go.Eng
set_option maxRecDepth 100000
set_option maxHeartbeats 4000000
namespace Go.Eng
open Go.Proofs Go.RowKit
noncomputable def ZCu:FuncId×Con:=(3,⟨[.slice (.slice (.pair (.int .i64) (.int .i64))),.slice (.pair (.int .i64) (.int .i64)),.slice (.pair (.int .i64) (.int .i64)),.pair (.int .i64) (.pair (.pair (.int .i64) (.int .i64)) (.pair (.slice (.pair (.int .i64) (.int .i64))) (.pair (.slice (.pair (.int .i64) (.int .i64))) (.slice (.pair (.int .i64) (.int .i64))))))],[.bool],fun p=>ZMk p.1 p.2.1 p.2.2.1 p.2.2.2⟩)
theorem Zou:KR ZCu:=Zv (C:=cf0 [Z0o,Zup,Zem,Zyk,ZXg,Zuk,Zqk,Zan,Zdm,ZSo,ZOs,Zfo,Zdl,ZSl,is1_q,Zfi,Zpq,Zom,ZAf] [] [] []) (.n (.two (.f (.j [0,1,2,7] [] [.s 46 (.dat .bool)] .no)) (.n (.n (.n (.n (.n (.n (.n (.n (.two (.two (.j [9,10,13,17,18,19,20,21] [] [.s 126 (.dat .bool)] .no) (.cut ⟨⟨[],[],[]⟩,[(.ret,⟨[],[],[.s 1000 (.dat .bool)]⟩),(.norm,⟨[9,10,13,17],[],[]⟩)]⟩ (.two (.f (.j [9,10,13,17] [] [.s 135 (.dat .bool)] .no)) (.f (.j [9,10,13,17] [] [.s 160 (.dat .bool)] .no))))) (.n (.two (.two (.j [10,17,22,23] [] [.s 176 (.dat .bool)] .no) (.f (.f (.j [] [] [.s 8 (.dat .bool)] .no)))) (.f (.j [] [] [.s 8 (.dat .bool)] .no))))))))))))))) Tryz.func3 [] (fun _=>by kernel_rfl) ⟨ZBv,Zxw,Zpr,ZQm,ZCh,rof_k,ZJl,Zro,Z9r,ZLu,Z6u,ZOu,Ziq,Zds,is1_k,Z8i,Z9u,ZBs,Zhg,tr⟩
theorem Zww {w0:World} {v0:Zb} (hv:VIn v0 w0) {c0:List Value} {a:(List (List (Int×Int)))} (p0:Rep.rel (Zl (Zl (Zt (Zd .i64) (Zd .i64)))) v0 c0 a) {c1:List Value} {b:(List (Int×Int))} (p1:Rep.rel (Zl (Zt (Zd .i64) (Zd .i64))) v0 c1 b) {c2:List Value} {c:(List (Int×Int))} (p2:Rep.rel (Zl (Zt (Zd .i64) (Zd .i64))) v0 c2 c) {c3:List Value} {r:(Int×(Int×Int)×(List (Int×Int))×(List (Int×Int))×(List (Int×Int)))} (p3:Rep.rel (Zt (Zd .i64) (Zt (Zt (Zd .i64) (Zd .i64)) (Zt (Zl (Zt (Zd .i64) (Zd .i64))) (Zt (Zl (Zt (Zd .i64) (Zd .i64))) (Zl (Zt (Zd .i64) (Zd .i64))))))) v0 c3 r) {z:Bool} (hm:ZMk a b c r=some z):Ret Tryz.prog 3 #[(Zl (Zl (Zt (Zd .i64) (Zd .i64)))).val c0,(Zl (Zt (Zd .i64) (Zd .i64))).val c1,(Zl (Zt (Zd .i64) (Zd .i64))).val c2,(Zt (Zd .i64) (Zt (Zt (Zd .i64) (Zd .i64)) (Zt (Zl (Zt (Zd .i64) (Zd .i64))) (Zt (Zl (Zt (Zd .i64) (Zd .i64))) (Zl (Zt (Zd .i64) (Zd .i64))))))).val c3] w0 v0 (fun y v'=>∃ r0,y=ZTc.val r0∧ZTc.rel v' r0 z):=(Zou w0 v0 [(Zl (Zl (Zt (Zd .i64) (Zd .i64)))).val c0,(Zl (Zt (Zd .i64) (Zd .i64))).val c1,(Zl (Zt (Zd .i64) (Zd .i64))).val c2,(Zt (Zd .i64) (Zt (Zt (Zd .i64) (Zd .i64)) (Zt (Zl (Zt (Zd .i64) (Zd .i64))) (Zt (Zl (Zt (Zd .i64) (Zd .i64))) (Zl (Zt (Zd .i64) (Zd .i64))))))).val c3] (a,b,c,r) z hv ⟨c0,_,rfl,p0,c1,_,rfl,p1,c2,_,rfl,p2,c3,rfl,p3⟩ hm).2
end Go.Eng
