/- Lemmas towards the statement: the engine of the walks, the functions' models, laws and walks, part 6. Conditions: as each states. -/
import Derived.Shelf.Strings.Builder1
import Derived.Shelf.Strings.Repeat
import Derived.Test.YtceoncclknebbaaGreatProg
import Derived.Test.YtceoncclknebbaaGreatPrE
set_option linter.all false
set_option maxRecDepth 100000
namespace Go.Eng
open Go.RowKit
def endO (ty:TypeId) (t:T) (c:V) (l:Lo):Option (List t.den):=match c with
 | .cons (.own u) .nl=>match lkE l u with
  | some ⟨_,_,.own ty' t' xs false⟩=>match Nat.beq ty' ty with
   | true=>ZOb t' t xs
   | false=>none
  | _=>none
 | _=>none
def Zej (C:Cf) (inl:Inl) (fn:Func) (ann:Ann) (ats:List T) (ty:TypeId) (t:T) (x:Zz ats):Option (List t.den):=match fn.body with
 | some c=>Znb C (Z6e C inl 20) fn.results.toList 0 fn.ntmps c _ ann (Zdb 0 0 (ZWb ats x)) [] 1 ⟨fun _ _ _=>none,fun _ _ _ _=>none,fun c l _=>endO ty t c l⟩
 | none=>none
theorem ZSy {C:Cf} (hC:CfOK C) {inl:Inl} (hinl:ZTb C inl) {f:FuncId} {fn:Func} {ann:Ann} {ats:List T} {ty:TypeId} {t:T} {x:Zz ats} {z:List t.den} (hf:C.P.funcs[f]? = some fn) (hl:Nat.ble ats.length fn.ntmps=true) (h:Zej C inl fn ann ats ty t x=some z)
  {w:World} {v:Zb} {vals:List Value} (hv:VIn v w) (ha:ZHa v ats vals x):RetO C.P f vals.toArray w v fun y v' w'=>OwnR t.rep ty t.n z w y v' w':=by
 unfold Zej at h;split at h
 ·rename_i c hc;obtain ⟨h1,h2,h3⟩:=Z4f (γ:=fun _=>.box 0) (l:=[]) (U:=(· < 0)) ha;have hK:vals.length≤fn.ntmps:=by rw [h3];exact Nat.le_of_ble_eq_true hl
  refine Zck hv hf hc rfl hK fun a hS=>?_;have hr:RelX fn.ntmps (fun _ _=>False) w v (· < 1) (· < 1) (Zdb 0 0 (ZWb ats x)) [] a w (fun _=>.box 0) v []:=by
   refine ⟨⟨hS.size,hS.dfr,fun t x h=>(by cases h),hS.ext,hS.vst,hS.loc,hS.nd⟩,fun t e he=>?_,⟨[],trivial,List.Perm.refl _⟩,List.nodup_nil,fun t e he=>?_,fun e he=>(by cases he),fun x y h=>h.elim⟩
   ·obtain ⟨y,q1,q2,q3,q4,q5⟩:=Zgc h1 h2 he;have:=hS.fr t y ?_
    ·rw [this];exact q3
    ·have q2:vals[t-0]? = some y:=q2;have:=Z4h (k:=0) (t:=t) (y:=y) (by simpa using q2)
     rwa [Nat.zero_add] at this
   ·obtain ⟨y,q1,q2,q3,q4,q5⟩:=Zgc h1 h2 he;exact ⟨V.ok.mono (fun k h=>absurd h (Nat.not_lt_zero k)) q4,by show e.st<1;omega⟩
  refine ZKi hC (Zfj hC hinl 20) c h ⟨_,_,_,hr⟩ ⟨fun f' l' n' a' w' hp hn' ho' hr'=>(by cases hp),fun i f' l' n' a' w' hp hn' ho' hr'=>(by cases hp),fun c l' n' a' w' hp hn' ho' hr'=>?_⟩;obtain ⟨γ',v',ℓ',vals',hr',hc',hk',hres⟩:=hr';have hp:endO ty t c l'=some z:=hp;unfold endO at hp;split at hp
  ·rename_i u;split at hp
   ·rename_i kk st ty' t' xs he;split at hp
    ·rename_i hty;have hty:=Nat.eq_of_beq_eq_true hty;subst hty;obtain ⟨e1,e2⟩:=ZW hp
     cases e1;cases e2
     obtain ⟨c1,xs1,rfl,⟨y,rfl,_,hy⟩,hx1⟩:=hc';have hx1:xs1=[]:=hx1;subst hx1;obtain ⟨ob,cap,g1,rfl⟩:=hy _ he;obtain ⟨hkk,es,hes,hmem⟩:=hr'.loc he;have hkk:kk=_:=hkk;subst hkk;obtain ⟨ob',cap',cs,q1,q2,rfl⟩:=hes;have q1:γ' kk = .own ob' cap':=q1;rw [g1] at q1;cases q1;obtain ⟨jj,hj⟩:=hmem _ List.mem_cons_self;obtain ⟨hh,hb⟩:=hr'.st.loc _ (List.mem_of_getElem? hj);refine ⟨hr'.st.dfr,_,ZUf hres,_,v',rfl,hr'.st.ext.ext,hr'.st.vst.ext,ob,_,cap,cs,rfl,hh,fun b e=>?_,q2,rfl⟩;obtain ⟨h1,h2⟩:=hb b e;rcases h1 with h1 | h1
     ·exact ⟨h1,h2⟩
     ·cases h1
    ·cases hp
   ·cases hp
  ·cases hp
 ·cases h
theorem cono_k {C:Cf} (hc:CL C.P C.cons) (ho:OL C.P C.owns) (hi:IL C.P C.ins) (hm:ML C.P C.meths) {inl:Inl} (hn:NL C.P inl) {f:FuncId} {fn:Func} {ann:Ann} {con:ConO} (hf:C.P.funcs[f]? = some fn) (hen:ZH C.P f) (hl:Nat.ble con.args.length fn.ntmps=true)
  (h:∀ x z,con.F x=some z→Zej C inl fn ann con.args con.ty con.t x=some z) (hq:QL C.P C.omats:=by exact trivial) (hb:BL C.P C.boxs:=by exact trivial) (hd:DL C.P C.dels:=by exact trivial):Z0e C.P f con :=
 fun _ _ _ x z hv ha hz=>⟨hen,ZSy (CfOK.of hc ho hi hm hq hb hd) (ZTb.of hn) hf hl (h x z hz) hv ha⟩
def endM (ty ty2:TypeId) (t:T) (c:V) (l:Lo):Option (List (List t.den)):=match c with
 | .cons (.own u) .nl=>match lkE l u with
  | some ⟨_,_,.mat ty' ty2' t' m _⟩=>match Nat.beq ty' ty,Nat.beq ty2' ty2 with
   | true,true=>Zsb t' t m
   | _,_=>none
  | _=>none
 | _=>none
def Zbj (C:Cf) (inl:Inl) (fn:Func) (ann:Ann) (ats:List T) (ty ty2:TypeId) (t:T) (x:Zz ats):Option (List (List t.den)):=match fn.body with
 | some c=>Znb C (Z6e C inl 20) fn.results.toList 0 fn.ntmps c _ ann (Zdb 0 0 (ZWb ats x)) [] 1 ⟨fun _ _ _=>none,fun _ _ _ _=>none,fun c l _=>endM ty ty2 t c l⟩
 | none=>none
theorem Zfw {ℓ es:List Loc} {E:List Loc} (h:(ℓ.filterMap Loc.blk).Nodup) (hp:ℓ.Perm (es++E)):(es.filterMap Loc.blk).Nodup:=by
 have h1:=(hp.filterMap Loc.blk).nodup_iff.1 h;rw [List.filterMap_append] at h1;exact (List.nodup_append.1 h1).1
theorem ZFy {C:Cf} (hC:CfOK C) {inl:Inl} (hinl:ZTb C inl) {f:FuncId} {fn:Func} {ann:Ann} {ats:List T} {ty ty2:TypeId} {t:T} {x:Zz ats} {z:List (List t.den)} (hf:C.P.funcs[f]? = some fn) (hl:Nat.ble ats.length fn.ntmps=true) (h:Zbj C inl fn ann ats ty ty2 t x=some z)
  {w:World} {v:Zb} {vals:List Value} (hv:VIn v w) (ha:ZHa v ats vals x):RetO C.P f vals.toArray w v (OwnM ty ty2 t z w):=by
 unfold Zbj at h;split at h
 ·rename_i c hc;obtain ⟨h1,h2,h3⟩:=Z4f (γ:=fun _=>.box 0) (l:=[]) (U:=(· < 0)) ha;have hK:vals.length≤fn.ntmps:=by rw [h3];exact Nat.le_of_ble_eq_true hl
  refine Zck hv hf hc rfl hK fun a hS=>?_;have hr:RelX fn.ntmps (fun _ _=>False) w v (· < 1) (· < 1) (Zdb 0 0 (ZWb ats x)) [] a w (fun _=>.box 0) v []:=by
   refine ⟨⟨hS.size,hS.dfr,fun t x h=>(by cases h),hS.ext,hS.vst,hS.loc,hS.nd⟩,fun t e he=>?_,⟨[],trivial,List.Perm.refl _⟩,List.nodup_nil,fun t e he=>?_,fun e he=>(by cases he),fun x y h=>h.elim⟩
   ·obtain ⟨y,q1,q2,q3,q4,q5⟩:=Zgc h1 h2 he;have:=hS.fr t y ?_
    ·rw [this];exact q3
    ·have q2:vals[t-0]? = some y:=q2;have:=Z4h (k:=0) (t:=t) (y:=y) (by simpa using q2)
     rwa [Nat.zero_add] at this
   ·obtain ⟨y,q1,q2,q3,q4,q5⟩:=Zgc h1 h2 he;exact ⟨V.ok.mono (fun k h=>absurd h (Nat.not_lt_zero k)) q4,by show e.st<1;omega⟩
  refine ZKi hC (Zfj hC hinl 20) c h ⟨_,_,_,hr⟩ ⟨fun f' l' n' a' w' hp hn' ho' hr'=>(by cases hp),fun i f' l' n' a' w' hp hn' ho' hr'=>(by cases hp),fun c l' n' a' w' hp hn' ho' hr'=>?_⟩;obtain ⟨γ',v',ℓ',vals',hr',hc',hk',hres⟩:=hr';have hp:endM ty ty2 t c l'=some z:=hp;unfold endM at hp;split at hp
  ·rename_i u;split at hp
   ·rename_i kk st ty' ty2' t' m' hv' he;split at hp
    ·rename_i hty hty2;have hty:=Nat.eq_of_beq_eq_true hty;have hty2:=Nat.eq_of_beq_eq_true hty2;subst hty hty2;obtain ⟨e1,e2⟩:=ZW hp
     cases e1;cases e2
     obtain ⟨c1,xs1,rfl,⟨y,rfl,_,hy⟩,hx1⟩:=hc';have hx1:xs1=[]:=hx1;subst hx1;obtain ⟨ob,cap,rows0,g1,rfl⟩:=hy _ he;obtain ⟨E,hE,hpm⟩:=hr'.lr;obtain ⟨es,E',r1,r2,r3⟩:=Zkf hE he;obtain ⟨ob',cap',rows,es2,q1,q2,rfl⟩:=r1;have hkk:kk=_:=(Zq he).2;subst hkk;have q1:γ' kk = .mat ob' cap' rows:=q1;rw [g1] at q1;cases q1;refine ⟨hr'.st.dfr,_,ZUf hres,_,v',rfl,hr'.st.ext.ext,hr'.st.vst.ext,_,_,_,es2,rfl,q2,fun x hx=>?_,Zfw hr'.st.nd (hpm.trans r3)⟩;obtain ⟨hh,hb⟩:=hr'.st.loc x ((hpm.trans r3).mem_iff.2 (List.mem_append_left _ hx));refine ⟨hh,fun b e=>?_⟩;obtain ⟨h1,h2⟩:=hb b e;rcases h1 with h1 | h1
     ·exact ⟨h1,h2⟩
     ·cases h1
    ·cases hp
   ·cases hp
  ·cases hp
 ·cases h
theorem conm_k {C:Cf} (hc:CL C.P C.cons) (ho:OL C.P C.owns) (hi:IL C.P C.ins) (hm:ML C.P C.meths) {inl:Inl} (hn:NL C.P inl) {f:FuncId} {fn:Func} {ann:Ann} {con:ConM} (hf:C.P.funcs[f]? = some fn) (hen:ZH C.P f) (hl:Nat.ble con.args.length fn.ntmps=true)
  (h:∀ x z,con.F x=some z→Zbj C inl fn ann con.args con.ty con.ty2 con.t x=some z) (hq:QL C.P C.omats:=by exact trivial) (hb:BL C.P C.boxs:=by exact trivial) (hd:DL C.P C.dels:=by exact trivial):Zoh C.P f con :=
 fun _ _ _ x z hv ha hz=>⟨hen,ZFy (CfOK.of hc ho hi hm hq hb hd) (ZTb.of hn) hf hl (h x z hz) hv ha⟩
def endB (ty:TypeId) (c:CT) (rts:List T) (cv:V) (l:Lo) (n:Nat):Option (c.den×Zz rts):=Zva n (ZKd rts cv fun y=>Zsc 0 (.box ty c) 0 fun z=>.done (z,y)) [] l fun r _ _=>some r
def ZVj (C:Cf) (inl:Inl) (fn:Func) (ann:Ann) (ty:TypeId) (c:CT) (ats rts:List T) (z:c.den) (x:Zz ats):Option (c.den×Zz rts):=match fn.body with
 | some cd=>match Z2 0 (.box ty c) z 0 1 with
  | (l,m)=>Znb C (Z6e C inl 20) fn.results.toList m fn.ntmps cd _ ann (Zdb 0 0 (.cons (.ptr 0 0) (ZWb ats x))) l m ⟨endN fn (endB ty c rts),fun _ _ _ _=>none,endB ty c rts⟩
 | none=>none
theorem Z3y {C:Cf} (hC:CfOK C) {inl:Inl} (hinl:ZTb C inl) {f:FuncId} {fn:Func} {ann:Ann} {ty:TypeId} {c:CT} {ats rts:List T} {z:c.den} {x:Zz ats} {r:c.den×Zz rts} (hf:C.P.funcs[f]? = some fn) (hl:Nat.ble (ats.length+1) fn.ntmps=true) (h:ZVj C inl fn ann ty c ats rts z x=some r)
  {w:World} {v:Zb} {b:Nat} {es:List Loc} {vals:List Value} (hv:VIn v w) (hz:CRL v (.box ty c) z (.box b) es) (hes:∀ e ∈ es,e.holds w∧∀ k,e.blk=some k→v k=none) (hnd:(es.filterMap Loc.blk).Nodup) (ha:ZHa v ats vals x) :
  Z4c C.P f (Value.pointer (some ⟨b,0,none⟩) :: vals).toArray w v (es.filterMap Loc.blk) (OwnB ty c rts b r (es.filterMap Loc.blk) w):=by
 unfold ZVj at h;split at h
 ·rename_i cd hc;obtain ⟨k1,k2,k3,γ0,k4,k5⟩:=ZAl (hh:=0) (u:=0) (n:=1) hz (by omega) (by omega) (l2:=(Z2 0 (.box ty c) z 0 1).1) (n2:=(Z2 0 (.box ty c) z 0 1).2) rfl;have hkk:∀ e ∈ (Z2 0 (.box ty c) z 0 1).1,lkE (Z2 0 (.box ty c) z 0 1).1 e.k=some e:=fun e he=>Zad k3 he;obtain ⟨E,hE,hpE⟩:=k5 γ0 _ fun e he=>⟨rfl,hkk e he⟩;have hhd:∀ e,lkE (Z2 0 (.box ty c) z 0 1).1 0=some e→∃ xh,e.x = .box ty xh:=fun e he=>by
   obtain ⟨hm,hk0⟩:=Zq he;rcases (k2 e hm).1 with ⟨_,q⟩ | q
   ·exact q
   ·omega
  have h:Znb C (Z6e C inl 20) fn.results.toList (Z2 0 (.box ty c) z 0 1).2 fn.ntmps cd _ ann (Zdb 0 0 (.cons (.ptr 0 0) (ZWb ats x))) (Z2 0 (.box ty c) z 0 1).1 (Z2 0 (.box ty c) z 0 1).2 _=some r:=h;generalize (Z2 0 (.box ty c) z 0 1).1=lI at k2 k3 hE hkk hhd h;generalize (Z2 0 (.box ty c) z 0 1).2=m at k1 k2 h;have hargs:RR v γ0 lI true (.cons (.ptr 0 0) (ZWb ats x)) (Value.pointer (some ⟨b,0,none⟩) :: vals):=by
   obtain ⟨q1,q2,q3⟩:=Z4f (γ:=γ0) (l:=lI) (U:=(· < 0)) ha;refine ⟨[.pointer (some ⟨b,0,none⟩)],vals,rfl,⟨_,rfl,rfl,fun e he=>?_⟩,q1⟩;obtain ⟨xh,hx⟩:=hhd e he;rw [hx];exact ⟨b,k4,rfl⟩
  have hok:(V.cons (.ptr 0 0) (ZWb ats x)).ok (· < m):=⟨(show 0<m by omega),V.ok.mono (fun k h=>absurd h (Nat.not_lt_zero k)) (Z4f (γ:=γ0) (l:=lI) (U:=(· < 0)) ha).2.1⟩;have hlen:=(Z4f (γ:=γ0) (l:=lI) (U:=(· < 0)) ha).2.2;have hK:vals.length+1≤fn.ntmps:=by rw [hlen];exact Nat.le_of_ble_eq_true hl
  refine calls_of_wp hf hc ?_;have hS:=St.enter (K:=fn.ntmps) hv (Value.pointer (some ⟨b,0,none⟩) :: vals) (by simpa using hK);have hlent:∀ e ∈ es,∀ k,e.blk=some k→k ∈ es.filterMap Loc.blk:=fun e he k hk=>List.mem_filterMap.2 ⟨e,he,hk⟩;have hr:RelX fn.ntmps (fun x y=>x = .ptr 0 0∧y = .pointer (some ⟨b,0,none⟩)) ⟨w,es.filterMap Loc.blk⟩ v (· < m) (· < m) (Zdb 0 0 (.cons (.ptr 0 0) (ZWb ats x))) lI { tmps:=(Value.pointer (some ⟨b,0,none⟩) :: vals).toArray++Array.replicate (fn.ntmps-(Value.pointer (some ⟨b,0,none⟩) :: vals).toArray.size) undef,defers:=[] } w γ0 v es:=by
   refine ⟨⟨hS.size,hS.dfr,fun t x h=>(by cases h),ExtB.refl ⟨w,es.filterMap Loc.blk⟩,⟨Zb.le_refl _,hv,fun _ _ _=>rfl⟩,fun e he=>⟨(hes e he).1,fun k hk=>⟨.inr (hlent e he k hk),(hes e he).2 k hk⟩⟩,hnd⟩,fun t e he=>?_,⟨E,hE,hpE⟩,k3,fun t e he=>?_,fun e he=>?_,fun x y hg=>?_⟩
   ·obtain ⟨y,q1,q2,q3,q4,q5⟩:=Zgc hargs hok he;have:=hS.fr t y ?_
    ·rw [this];exact q3
    ·have:=Z4h (k:=0) (t:=t) (y:=y) (by simpa using q2)
     rwa [Nat.zero_add] at this
   ·obtain ⟨y,q1,q2,q3,q4,q5⟩:=Zgc hargs hok he;exact ⟨q4,by show e.st<m;omega⟩
   ·obtain ⟨q1,q2,q3,q4⟩:=k2 e he;refine ⟨?_,q3,q4⟩;rcases q1 with ⟨q1,_⟩ | q1
    ·show e.k<m;omega
    ·exact q1.2
   ·obtain ⟨rfl,rfl⟩:=hg;obtain ⟨c1,xs1,q1,q2,q3⟩:=hargs;obtain ⟨yy,rfl,q4⟩:=q2;have q1:Value.pointer (some ⟨b,0,none⟩)=yy:=(List.cons.inj q1).1;subst q1;exact ⟨⟨_,⟨_,rfl,q4⟩,rfl⟩,(show 0<m by omega)⟩
  have fin:∀ {cv:V} {l':Lo} {n':Nat} {a':Act} {w':World} {γ':Nat→Gh} {v':Zb} {ℓ':List Loc} {vals':List Value},endB ty c rts cv l' n'=some r→m≤n'→RelX fn.ntmps (fun x y=>x = .ptr 0 0∧y = .pointer (some ⟨b,0,none⟩)) ⟨w,es.filterMap Loc.blk⟩ v (· < n') (· < n') [] l' a' w' γ' v' ℓ'→RR v' γ' l' true cv vals'→cv.ok (· < n') →
    ∃ v2,ExtB ⟨w,es.filterMap Loc.blk⟩ w'∧VStepB ⟨w,es.filterMap Loc.blk⟩ v w' v2∧OwnB ty c rts b r (es.filterMap Loc.blk) w (ZUe vals') v2 w':=by
   intro cv l' n' a' w' γ' v' ℓ' vals' hx hmn hr' hcv hck;have h1:=ZUg hx;have hr1:RelX fn.ntmps (fun x y=>x = .ptr 0 0∧y = .pointer (some ⟨b,0,none⟩)) ⟨w,es.filterMap Loc.blk⟩ v (· < n') (· < n'+1) [] l' a' w' γ' v' ℓ':=hr'.mono (fun _ h=>h) fun k h=>(show k<n'+1 by have:k<n':=h;omega);obtain ⟨y,l1,γ1,v1,ℓ1,h2,r1,le1,q1⟩:=ZCf (U:=(· < n')) (X:=(· < n'+1)) (Nat.lt_irrefl n') (Nat.lt_succ_self n') h1 hr1 hck;obtain ⟨z2,l2,γ2,v2,ℓ2,es2,e0,h3,r2,hst,le2,hcrl,he0,hnone,hhead⟩:=Zcm (U:=(· < n')) (X:=(· < n'+1)) (Nat.lt_irrefl n') (Nat.lt_succ_self n') (ex:=[]) (show 0<n' by omega) h2 r1 r1.st;have h3:some (z2,y)=some r:=h3
   cases h3
   have hst:St fn.ntmps ⟨w,es.filterMap Loc.blk⟩ v [] (es2++ℓ2) v2 a' w':=hst;obtain ⟨b2,c1,e1,hg,hcr,hpl,hes2⟩:=hcrl;have hbb:b2=b:=by
    obtain ⟨⟨cs,⟨yy,rfl,_,hy⟩,hyy⟩,_⟩:=r1.gh _ _ ⟨rfl,rfl⟩;have hyy:Value.pointer (some ⟨b,0,none⟩)=yy:=hyy;subst hyy;obtain ⟨xh,hxh⟩:=hhead;have hy:=hy _ he0;rw [hxh] at hy;obtain ⟨b3,t1,t2⟩:=hy;rw [hg] at t1;cases t1;cases t2;rfl
   subst hbb;refine ⟨v2,hst.ext,hst.vst,ZPs (ZMn le2.v (q1 _ hcv)),es2,⟨b2,c1,e1,rfl,hcr,hpl,hes2⟩,fun e he=>?_,?_⟩
   ·exact hst.loc e (List.mem_append_left _ he)
   ·have:=hst.nd;rw [List.filterMap_append] at this;exact (List.nodup_append.1 this).1
  refine ZKi hC (Zfj hC hinl 20) cd h ⟨_,_,_,hr⟩ ⟨fun f' l' n' a' w' hp hn' ho' hr'=>?_,fun i f' l' n' a' w' hp hn' ho' hr'=>(by cases hp),fun cv l' n' a' w' hp hn' ho' hr'=>?_⟩
  ·unfold endN at hp;split at hp
   ·rename_i hres;obtain ⟨γ',v',ℓ',hr'⟩:=hr';have hr2:RelX fn.ntmps (fun x y=>x = .ptr 0 0∧y = .pointer (some ⟨b,0,none⟩)) ⟨w,es.filterMap Loc.blk⟩ v (· < n') (· < n') [] l' a' w' γ' v' ℓ':=⟨⟨hr'.st.size,hr'.st.dfr,fun t x h=>(by cases h),hr'.st.ext,hr'.st.vst,hr'.st.loc,hr'.st.nd⟩,fun t e he=>(by cases he),hr'.lr,hr'.nd,fun t e he=>(by cases he),hr'.ul,hr'.gh⟩;obtain ⟨v2,t1,t2,t3⟩:=fin hp hn' hr2 (vals':=[]) rfl trivial;exact ⟨hr'.st.dfr,_,ZUf (vals:=[]) (by rw [hres];exact trivial),_,v2,rfl,t1,t2,t3⟩
   ·cases hp
  ·obtain ⟨γ',v',ℓ',vals',hr',hc',hk',hres⟩:=hr';obtain ⟨v2,t1,t2,t3⟩:=fin hp hn' hr' hc' hk';exact ⟨hr'.st.dfr,_,ZUf hres,_,v2,rfl,t1,t2,t3⟩
 ·cases h
theorem conb_k {C:Cf} (hc:CL C.P C.cons) (ho:OL C.P C.owns) (hi:IL C.P C.ins) (hm:ML C.P C.meths) {inl:Inl} (hn:NL C.P inl) {f:FuncId} {fn:Func} {ann:Ann} {con:ConB} (hf:C.P.funcs[f]? = some fn) (hen:ZH C.P f) (hl:Nat.ble (con.args.length+1) fn.ntmps=true)
  (h:∀ z x r,con.F z x=some r→ZVj C inl fn ann con.ty con.c con.args con.res z x=some r) (hq:QL C.P C.omats:=by exact trivial) (hb:BL C.P C.boxs:=by exact trivial) (hd:DL C.P C.dels:=by exact trivial):ZNf C.P f con :=
 fun _ _ _ _ _ z x r hv hz hes hnd ha hF=>⟨hen,Z3y (CfOK.of hc ho hi hm hq hb hd) (ZTb.of hn) hf hl (h z x r hF) hv hz hes hnd ha⟩
theorem tr:True:=trivial
abbrev Ann.n (a:Ann):Ann:=.two .no a
abbrev Ann.f (a:Ann):Ann:=.two a .no
abbrev Ann.j (s:List Nat) (p:List Pl) (v:List Vr) (a:Ann):Ann:=.cut ⟨⟨[],[],[]⟩,[(.norm,⟨s,p,v⟩)]⟩ a
abbrev Ann.r (s:List Nat) (p:List Pl) (v:List Vr) (a:Ann):Ann:=.cut ⟨⟨[],[],[]⟩,[(.ret,⟨s,p,v⟩)]⟩ a
abbrev Ann.l (s:List Nat) (p:List Pl) (v:List Vr) (k:Nat) (s':List Nat) (p':List Pl) (v':List Vr) (a:Ann):Ann:=.cut ⟨⟨s,p,v⟩,[(.exit k,⟨s',p',v'⟩)]⟩ a
def ConR (P:Program) (f:FuncId) (c:Con):Prop:=∀ (w:World) (v:Zb) (vals:List Value) (x:Zz c.args) (z:Zz c.res),VIn v w→ZHa v c.args vals x→c.F x=some z→ZH P f∧Ret P f vals.toArray w v fun y v'=>Z1d v' c.res y z
theorem Zh {P:Program} {f:FuncId} {c:Con} (h:ConR P f c):ZNd P f c:=fun w v vals x z hv ha hz=>.inl (h w v vals x z hv ha hz)
theorem Zt {f:FuncId} {ats rts:List T} {F:Zz ats→Option (Zz rts)} {C:Cf} (ann:Ann) {fn:Func} (hf:C.P.funcs[f]? = some fn) (inl:Inl) (h:∀ x,ZCh C inl fn ann ats rts x=F x) (hc:CL C.P C.cons:=by exact tr) (ho:OL C.P C.owns:=by exact tr) (hm:ML C.P C.meths:=by exact tr) (hn:NL C.P inl:=by exact tr)
  (hq:QL C.P C.omats:=by exact tr) (hb:BL C.P C.boxs:=by exact tr) (hd:DL C.P C.dels:=by exact tr) (hi:IL C.P C.ins:=by exact tr) (hen:ZH C.P f:=by exact fun _ _=>by kernel_rfl) (hl:Nat.ble ats.length fn.ntmps=true:=by exact rfl):ConR C.P f ⟨ats,rts,F⟩ :=
 fun _ _ _ x _ hv ha hz=>⟨hen,Zam (CfOK.of hc ho hi hm hq hb hd) (ZTb.of hn) hf hl ((h x).trans hz) hv ha⟩
theorem Zx {f:FuncId} {ats rts:List T} {F:Zz ats→Option (Zz rts)} {C:Cf} (ann:Ann) {fn:Func} (hf:C.P.funcs[f]? = some fn) (inl:Inl) (h:∀ v vals x z,ZHa v ats vals x→F x=some z→ZCh C inl fn ann ats rts x=some z) (hc:CL C.P C.cons:=by exact tr) (ho:OL C.P C.owns:=by exact tr) (hm:ML C.P C.meths:=by exact tr) (hn:NL C.P inl:=by exact tr)
  (hq:QL C.P C.omats:=by exact tr) (hb:BL C.P C.boxs:=by exact tr) (hd:DL C.P C.dels:=by exact tr) (hi:IL C.P C.ins:=by exact tr) (hen:ZH C.P f:=by exact fun _ _=>by kernel_rfl) (hl:Nat.ble ats.length fn.ntmps=true:=by exact rfl):ConR C.P f ⟨ats,rts,F⟩ :=
 fun _ v vals x z hv ha hz=>⟨hen,Zam (CfOK.of hc ho hi hm hq hb hd) (ZTb.of hn) hf hl (h v vals x z ha hz) hv ha⟩
theorem Z0j {f:FuncId} {ax rs:List T} {F:Zz ax→Option (Zz rs)} {C:Cf} (ann:Ann) {fn:Func} (hf:C.P.funcs[f]? = some fn) (inl:Inl) (ats rts:List T) (gA:Zz ax→Zz ats) (gR:Zz rs→Zz rts) (h:∀ v vals x z,ZHa v ax vals x→F x=some z→ZCh C inl fn ann ats rts (gA x)=some (gR z))
  (hc:CL C.P C.cons:=by exact tr) (ho:OL C.P C.owns:=by exact tr) (hm:ML C.P C.meths:=by exact tr) (hn:NL C.P inl:=by exact tr)
  (hA:∀ v vals x,ZHa v ax vals x→ZHa v ats vals (gA x):=by exact fun _ _ _ h=>h) (hR:∀ v y z,Z1d v rts y (gR z)→Z1d v rs y z:=by exact fun _ _ _ h=>h)
  (hq:QL C.P C.omats:=by exact tr) (hb:BL C.P C.boxs:=by exact tr) (hd:DL C.P C.dels:=by exact tr) (hi:IL C.P C.ins:=by exact tr) (hen:ZH C.P f:=by exact fun _ _=>by kernel_rfl) (hl:Nat.ble ats.length fn.ntmps=true:=by exact rfl):ConR C.P f ⟨ax,rs,F⟩ :=
 fun _ v vals x z hv ha hz=>⟨hen,(Zam (CfOK.of hc ho hi hm hq hb hd) (ZTb.of hn) hf hl (h v vals x z ha hz) hv (hA v vals x ha)).mono fun y v' _ hy=>hR v' y z hy⟩
theorem cono_z {f:FuncId} {ats:List T} {ty:TypeId} {t:T} {F:Zz ats→Option (List t.den)} {C:Cf} (ann:Ann) {fn:Func} (hf:C.P.funcs[f]? = some fn) (inl:Inl) (h:∀ x,Zej C inl fn ann ats ty t x=F x) (hc:CL C.P C.cons:=by exact tr) (ho:OL C.P C.owns:=by exact tr) (hm:ML C.P C.meths:=by exact tr) (hn:NL C.P inl:=by exact tr)
  (hq:QL C.P C.omats:=by exact tr) (hb:BL C.P C.boxs:=by exact tr) (hd:DL C.P C.dels:=by exact tr) (hi:IL C.P C.ins:=by exact tr) (hen:ZH C.P f:=by exact fun _ _=>by kernel_rfl) (hl:Nat.ble ats.length fn.ntmps=true:=by exact rfl):Z0e C.P f ⟨ats,ty,t,F⟩ :=
 cono_k hc ho hi hm hn hf hen hl (fun x _ hz=>(h x).trans hz) hq hb hd
theorem conm_z {f:FuncId} {ats:List T} {ty ty2:TypeId} {t:T} {F:Zz ats→Option (List (List t.den))} {C:Cf} (ann:Ann) {fn:Func} (hf:C.P.funcs[f]? = some fn) (inl:Inl) (h:∀ x,Zbj C inl fn ann ats ty ty2 t x=F x) (hc:CL C.P C.cons:=by exact tr) (ho:OL C.P C.owns:=by exact tr) (hm:ML C.P C.meths:=by exact tr) (hn:NL C.P inl:=by exact tr)
  (hq:QL C.P C.omats:=by exact tr) (hb:BL C.P C.boxs:=by exact tr) (hd:DL C.P C.dels:=by exact tr) (hi:IL C.P C.ins:=by exact tr) (hen:ZH C.P f:=by exact fun _ _=>by kernel_rfl) (hl:Nat.ble ats.length fn.ntmps=true:=by exact rfl):Zoh C.P f ⟨ats,ty,ty2,t,F⟩ :=
 conm_k hc ho hi hm hn hf hen hl (fun x _ hz=>(h x).trans hz) hq hb hd
theorem ZOg {f:FuncId} {ty:TypeId} {c:CT} {ats rts:List T} {F:c.den→Zz ats→Option (c.den×Zz rts)} {C:Cf} (ann:Ann) {fn:Func} (hf:C.P.funcs[f]? = some fn) (inl:Inl) (h:∀ z x,ZVj C inl fn ann ty c ats rts z x=F z x) (hc:CL C.P C.cons:=by exact tr) (ho:OL C.P C.owns:=by exact tr) (hm:ML C.P C.meths:=by exact tr) (hn:NL C.P inl:=by exact tr)
  (hq:QL C.P C.omats:=by exact tr) (hb:BL C.P C.boxs:=by exact tr) (hd:DL C.P C.dels:=by exact tr) (hi:IL C.P C.ins:=by exact tr) (hen:ZH C.P f:=by exact fun _ _=>by kernel_rfl) (hl:Nat.ble (ats.length+1) fn.ntmps=true:=by exact rfl):ZNf C.P f ⟨ty,c,ats,rts,F⟩ :=
 conb_k hc ho hi hm hn hf hen hl (fun z x _ hz=>(h z x).trans hz) hq hb hd
end Go.Eng
namespace Go.Eng
open Go.Proofs Go.RowKit
abbrev lf:List (TypeId×Nat):=[(43,1),(45,4),(55,0),(57,2),(59,3)]
noncomputable abbrev cf0 (c:List (FuncId×Con)) (m:List Nat) (o:List (FuncId×ConO)) (s:List ((TypeId×String)×FuncId)):Cf:=⟨Tryz.prog,lf,c,m,o,[],s,{}⟩
noncomputable abbrev cf2 (l:List (TypeId×Nat)) (c:List (FuncId×Con)):Cf:=⟨Tryz.prog,l,c,[],[],[],[],{}⟩
noncomputable abbrev cf1 (c:List (FuncId×Con)) (m:List Nat) (o:List (FuncId×ConO)) (s:List ((TypeId×String)×FuncId)) (q:List (FuncId×ConM)) (b:List (FuncId×ConB)) (d:List (FuncId×ConD)):Cf:=⟨Tryz.prog,lf,c,m,o,[],s,⟨q,b,d⟩⟩
abbrev KQ (q:FuncId×Con):=ZNd Tryz.prog q.1 q.2
abbrev KR (q:FuncId×Con):=ConR Tryz.prog q.1 q.2
abbrev KO (q:FuncId×ConO):=Z0e Tryz.prog q.1 q.2
abbrev KW (q:FuncId×ConM):=Zoh Tryz.prog q.1 q.2
abbrev KB (q:FuncId×ConB):=ZNf Tryz.prog q.1 q.2
end Go.Eng
set_option maxRecDepth 100000
set_option maxHeartbeats 4000000
namespace Go.Eng
open Go.Proofs Go.RowKit
noncomputable def ZOs:FuncId×Con:=(83,⟨[.slice (.pair (.int .i64) (.int .i64))],[.bool],fun p=>Zif p⟩)
theorem Zpx:KQ ZOs:=Zh (Zt (C:=cf0 [] [] [] []) (.n (.f (.n (.f (.cut ⟨⟨[5,6],[],[.s 7 (.dat (.int .i64))]⟩,[(.exit 0,⟨[],[],[]⟩),(.ret,⟨[],[],[.s 1000 (.dat .bool)]⟩)]⟩ (.f (.n (.n (.f (.f (.n (.f (.j [5,6,7] [] [.s 24 (.dat .bool)] .no))))))))))))) Tryz.func83 [] (fun _=>by kernel_rfl))
end Go.Eng
set_option maxRecDepth 100000
set_option maxHeartbeats 4000000
namespace Go.Eng
open Go.Proofs Go.RowKit
noncomputable def Zsr:FuncId×Con:=(38,⟨[.slice (.slice (.pair (.int .i64) (.int .i64)))],[.bool],fun p=>Z7j p⟩)
theorem few2_k:KQ Zsr:=Zh (Zt (C:=cf0 [ZOs] [] [] []) (.n (.two (.n (.f (.f (.j [] [] [.s 2 (.dat .bool)] .no)))) (.f (.n (.f (.cut ⟨⟨[0,16,17],[],[.s 18 (.dat (.int .i64))]⟩,[(.exit 0,⟨[],[],[]⟩),(.ret,⟨[],[],[.s 1000 (.dat .bool)]⟩)]⟩ (.f (.n (.n (.f (.f (.n (.f (.j [0,16,17,18] [] [.s 44 (.dat .bool)] .no)))))))))))))) Tryz.func38 [] (fun _=>by kernel_rfl) ⟨Zpx,tr⟩)
end Go.Eng
set_option maxRecDepth 100000
set_option maxHeartbeats 4000000
namespace Go.Eng
open Go.Proofs Go.RowKit
noncomputable def ZVp:FuncId×Con:=(7,⟨[.slice (.slice (.pair (.int .i64) (.int .i64))),.slice (.pair (.int .i64) (.int .i64)),.slice (.pair (.int .i64) (.int .i64))],[.bool],fun p=>Zlj p.1 p.2.1 p.2.2⟩)
theorem Z1u:KQ ZVp:=Zh (Zt (C:=cf0 [Zsr] [] [] []) (.n (.f (.j [] [] [.s 6 (.dat .bool)] .no))) Tryz.func7 [] (fun _=>by kernel_rfl) ⟨few2_k,tr⟩)
end Go.Eng
set_option maxRecDepth 100000
set_option maxHeartbeats 4000000
namespace Go.Eng
open Go.Proofs Go.RowKit
noncomputable def Zbe:FuncId×Con:=(125,⟨[.slice (.int .u32)],[.leaf 1],fun p=>ZZa p⟩)
theorem Z3e:KQ Zbe:=Zh (Z0j (C:=cf2 [] []) (.n (.n (.f (.j [0] [] [.s 3 (.dat (.int .i64))] (.f (.l [0] [] [.s 3 (.dat (.int .i64))] 0 [0] [] [.s 3 (.dat (.int .i64))] (.f (.f (.f (.j [0,3] [] [.s 15 (.dat .bool)] .no)))))))))) Tryz.func125 [] [.slice (.int .u32)] [.slice (.int .u32)] (fun x=>(x)) (fun z=>(Zc 4294967296 z)) (fun v vals x z ha hz=>by obtain ⟨c0,e0,p0⟩:=ha;exact .trans (by kernel_rfl) (by cases hz;exact (rcut_eq (Ztl p0).1 (Ztl p0).2))))
end Go.Eng
set_option maxRecDepth 100000
set_option maxHeartbeats 4000000
namespace Go.Eng
open Go.Proofs Go.RowKit
noncomputable def Z4i:FuncId×Con:=(90,⟨[.int .u64],[.leaf 1],fun p=>Zkc p⟩)
theorem Zil:KQ Z4i:=Zh (Zx (C:=cf2 [(43,1),(45,4)] [Zbe]) .no Tryz.func90 [] (fun v vals x z ha hz=>by obtain ⟨c0,e0,p0⟩:=ha;exact .trans (by kernel_rfl) (ZRy p0.2 hz)) ⟨Z3e,tr⟩)
end Go.Eng
set_option maxRecDepth 100000
set_option maxHeartbeats 4000000
namespace Go.Eng
open Go.Proofs Go.RowKit
noncomputable def ZQh:FuncId×Con:=(101,⟨[.leaf 1,.leaf 1],[.int .i64],fun p=>Zzc p.1 p.2⟩)
theorem ZEj:KQ ZQh:=Zh (Zx (C:=cf2 [(43,1),(45,4)] []) (.n (.n (.n (.f (.n (.cut ⟨⟨[],[],[]⟩,[(.norm,⟨[],[],[]⟩),(.ret,⟨[],[],[.s 1000 (.dat (.int .i64))]⟩)]⟩ (.f (.cut ⟨⟨[0,1],[],[.s 5 (.dat (.int .i64))]⟩,[(.ret,⟨[],[],[.s 1000 (.dat (.int .i64))]⟩),(.exit 0,⟨[],[],[]⟩)]⟩ .no)))))))) Tryz.func101 [] (fun v vals x z ha hz=>by obtain ⟨c0,w0,e0,p0,c1,e1,p1⟩:=ha;exact .trans (by kernel_rfl) ((Zhu (ZWr p0) (ZWr p1)).trans hz)))
end Go.Eng
set_option maxRecDepth 100000
set_option maxHeartbeats 4000000
namespace Go.Eng
open Go.Proofs Go.RowKit
noncomputable def ZNn:FuncId×Con:=(134,⟨[.leaf 1,.int .u32],[.leaf 1,.int .u32],fun p=>ZIe p.1 p.2⟩)
theorem ZDr:KQ ZNn:=Zh (Zx (C:=cf2 [(43,1),(45,4)] [Zbe]) (.n (.n (.n (.f (.n (.j [] [] [.s 6 (.own 154 (.int .u32)),.s 7 (.dat (.int .u64))] (.f (.l [0,1] [] [.s 6 (.own 154 (.int .u32)),.s 7 (.dat (.int .u64)),.s 8 (.dat (.int .i64))] 0 [] [] [.s 6 (.own 154 (.int .u32)),.s 7 (.dat (.int .u64))] .no)))))))) Tryz.func134 [] (fun v vals x z ha hz=>by obtain ⟨c0,w0,e0,p0,c1,e1,p1⟩:=ha;exact .trans (by kernel_rfl) (Z3x p1.2 hz)) ⟨Z3e,tr⟩)
end Go.Eng
set_option maxRecDepth 100000
set_option maxHeartbeats 4000000
namespace Go.Eng
open Go.Proofs Go.RowKit
noncomputable def Zxj:FuncId×Con:=(135,⟨[.leaf 1,.leaf 1],[.leaf 1],fun p=>Zsa p.1 p.2⟩)
theorem ZUm:KQ Zxj:=Zh (Zx (C:=cf2 [(43,1),(45,4)] [Zbe]) (.n (.n (.f (.n (.j [] [] [.s 5 (.own 154 (.int .u32))] (.f (.l [0,1] [] [.s 5 (.own 154 (.int .u32)),.s 6 (.dat (.int .i64))] 0 [] [] [.s 5 (.own 154 (.int .u32))] (.f (.n (.f (.f (.n (.f (.n (.j [0,1,6] [] [.s 5 (.own 154 (.int .u32)),.s 7 (.dat (.int .u64))] (.f (.l [0,1,6] [] [.s 5 (.own 154 (.int .u32)),.s 7 (.dat (.int .u64)),.s 8 (.dat (.int .i64))] 2 [0,1,6] [] [.s 5 (.own 154 (.int .u32)),.s 7 (.dat (.int .u64))] .no))))))))))))))))) Tryz.func135 [] (fun v vals x z ha hz=>.trans (by kernel_rfl) (Zbw hz)) ⟨Z3e,tr⟩)
end Go.Eng
set_option maxRecDepth 100000
set_option maxHeartbeats 4000000
namespace Go.Eng
open Go.Proofs Go.RowKit
noncomputable def Zao:FuncId×Con:=(137,⟨[.leaf 1,.leaf 1],[.leaf 1],fun p=>ZBb p.1 p.2⟩)
theorem ZWp:KQ Zao:=Zh (Zx (C:=cf2 [(43,1),(45,4)] [Zbe]) (.n (.n (.n (.f (.n (.j [] [] [.s 5 (.own 154 (.int .u32))] (.f (.l [0,1] [] [.s 5 (.own 154 (.int .u32)),.s 6 (.dat (.int .i64)),.s 7 (.dat (.int .i64))] 0 [] [] [.s 5 (.own 154 (.int .u32))] (.f (.n (.f (.f (.n (.two (.n (.j [0,1,5,7] [] [.s 8 (.dat (.int .i64))] .no)) (.n (.f (.n (.j [0,1,5,7] [] [.s 6 (.dat (.int .i64)),.s 8 (.dat (.int .i64))] .no)))))))))))))))))) Tryz.func137 [] (fun v vals x z ha hz=>.trans (by kernel_rfl) (Zfv hz)) ⟨Z3e,tr⟩)
end Go.Eng
set_option maxRecDepth 100000
set_option maxHeartbeats 4000000
namespace Go.Eng
open Go.Proofs Go.RowKit
noncomputable def Zsm:FuncId×Con:=(156,⟨[.leaf 1],[.int .i64],fun p=>Zcf p⟩)
theorem ZAq:KQ Zsm:=Zh (Zx (C:=cf2 [(43,1),(45,4)] []) (.n (.n (.n (.f (.n (.j [] [] [.s 3 (.dat (.int .i64))] (.f (.l [] [] [.s 3 (.dat (.int .i64)),.s 4 (.dat (.int .u32))] 0 [] [] [.s 3 (.dat (.int .i64))] .no)))))))) Tryz.func156 [] (fun v vals x z ha hz=>.trans (by kernel_rfl) (Z7x hz)))
end Go.Eng
set_option maxRecDepth 100000
set_option maxHeartbeats 4000000
namespace Go.Eng
open Go.Proofs Go.RowKit
noncomputable def Zlg:FuncId×Con:=(157,⟨[.leaf 1,.int .i64],[.leaf 1],fun p=>ZVb p.1 p.2⟩)
theorem ZZh:KQ Zlg:=Zh (Zx (C:=cf2 [(43,1),(45,4)] [Zbe]) (.n (.n (.n (.n (.f (.n (.j [] [] [.s 5 (.own 154 (.int .u32)),.s 6 (.dat (.int .u64))] (.f (.l [0,1] [] [.s 5 (.own 154 (.int .u32)),.s 6 (.dat (.int .u64)),.s 7 (.dat (.int .i64))] 0 [] [] [.s 5 (.own 154 (.int .u32)),.s 6 (.dat (.int .u64))] .no))))))))) Tryz.func157 [] (fun v vals x z ha hz=>.trans (by kernel_rfl) (Zxy hz)) ⟨Z3e,tr⟩)
end Go.Eng
set_option maxRecDepth 100000
set_option maxHeartbeats 4000000
namespace Go.Eng
open Go.Proofs Go.RowKit
noncomputable def ZRm:FuncId×Con:=(158,⟨[.leaf 1,.int .i64],[.leaf 1],fun p=>ZOf p.1 p.2⟩)
theorem ZAr:KQ ZRm:=Zh (Zx (C:=cf2 [(43,1),(45,4)] [Zbe]) (.n (.n (.f (.n (.j [] [] [.s 5 (.own 154 (.int .u32))] (.f (.l [0,1] [] [.s 5 (.own 154 (.int .u32)),.s 6 (.dat (.int .i64))] 0 [] [] [.s 5 (.own 154 (.int .u32))] (.f (.n (.f (.f (.n (.f (.n (.j [0,1,5,6] [] [.s 7 (.dat (.int .u64))] .no))))))))))))))) Tryz.func158 [] (fun v vals x z ha hz=>by obtain ⟨c0,w0,e0,p0,c1,e1,p1⟩:=ha;exact .trans (by kernel_rfl) (Zvu p1.2 hz)) ⟨Z3e,tr⟩)
end Go.Eng
set_option maxRecDepth 100000
set_option maxHeartbeats 4000000
namespace Go.Eng
open Go.Proofs Go.RowKit
noncomputable def Zuk:FuncId×Con:=(124,⟨[.leaf 1,.leaf 1],[.leaf 1,.leaf 1],fun p=>Zfc p.1 p.2⟩)
theorem Zhm:KQ Zuk:=Zh (Zx (C:=cf2 [(43,1),(45,4)] [Z4i,ZQh,Zbe,ZNn,Zxj,Zao,Zsm,Zlg,ZRm]) (.n (.n (.n (.n (.n (.n (.n (.f (.n (.j [8] [] [.s 10 (.dat (.leaf 1)),.s 12 (.own 154 (.int .u32))] (.f (.l [8,9,11] [] [.s 10 (.dat (.leaf 1)),.s 12 (.own 154 (.int .u32)),.s 13 (.dat (.int .i64))] 0 [8] [] [.s 10 (.dat (.leaf 1)),.s 12 (.own 154 (.int .u32))] (.f (.n (.f (.j [8,9,11,13] [] [.s 10 (.dat (.leaf 1)),.s 12 (.own 154 (.int .u32))] (.f (.n (.two (.n (.j [8,9,10,11,12,13] [] [.s 14 (.dat (.slice (.int .u32)))] .no)) (.n (.n (.two (.n (.j [8,9,10,11,12,13,14] [] [.s 15 (.dat (.int .u64))] .no)) (.n (.two (.n (.j [8,9,10,11,12,13,14] [] [.s 16 (.dat (.int .u64))] .no)) (.n (.f (.j [8,9,10,11,12,13,14] [] [.s 16 (.dat (.int .u64)),.s 17 (.dat (.leaf 1))] (.f (.l [8,9,10,11,12,13,14] [] [.s 16 (.dat (.int .u64)),.s 17 (.dat (.leaf 1))] 2 [8,9,10,11,12,13,14] [] [.s 16 (.dat (.int .u64)),.s 17 (.dat (.leaf 1))] .no))))))))))))))))))))))))))))) Tryz.func124 [] (fun v vals x z ha hz=>.trans (by kernel_rfl) (Zfx hz)) ⟨Zil,ZEj,Z3e,ZDr,ZUm,ZWp,ZAq,ZZh,ZAr,tr⟩)
end Go.Eng
set_option maxRecDepth 100000
set_option maxHeartbeats 4000000
namespace Go.Eng
open Go.Proofs Go.RowKit
noncomputable def Zcs:FuncId×Con:=(123,⟨[.leaf 1,.leaf 1],[.leaf 1],fun p=>rgcF p.1 p.2⟩)
theorem rgcd_k:KQ Zcs:=Zh (Zx (C:=cf2 [(43,1),(45,4)] [Zuk]) (.n (.f (.j [] [] [.s 0 (.dat (.leaf 1))] (.f (.l [] [] [.s 0 (.dat (.leaf 1)),.s 1 (.dat (.leaf 1))] 0 [] [] [.s 0 (.dat (.leaf 1))] .no))))) Tryz.func123 [] (fun v vals x z ha hz=>.trans (by kernel_rfl) (rgcF_eq hz)) ⟨Zhm,tr⟩)
end Go.Eng
set_option maxRecDepth 100000
set_option maxHeartbeats 4000000
namespace Go.Eng
open Go.Proofs Go.RowKit
noncomputable def Z5d:FuncId×Con:=(89,⟨[.bool,.leaf 1,.leaf 1],[.leaf 4],fun p=>ZNa p.1 p.2.1 p.2.2⟩)
theorem ZTe:KQ Z5d:=Zh (Zx (C:=cf2 [(43,1),(45,4)] [Zcs,Zuk]) .no Tryz.func89 [] (fun v vals x z ha hz=>.trans (by kernel_rfl) (ZAx hz)) ⟨rgcd_k,Zhm,tr⟩)
end Go.Eng
set_option maxRecDepth 100000
set_option maxHeartbeats 4000000
namespace Go.Eng
open Go.Proofs Go.RowKit
noncomputable def Zte:FuncId×Con:=(44,⟨[.int .i64],[.leaf 4],fun p=>Z8 p⟩)
theorem Zyf:KQ Zte:=Zh (Zx (C:=cf2 [(43,1),(45,4)] [Z5d,Z4i]) .no Tryz.func44 [] (fun v vals x z ha hz=>by obtain ⟨c0,e0,p0⟩:=ha;exact .trans (by kernel_rfl) (ZTx p0.2 hz)) ⟨ZTe,Zil,tr⟩)
end Go.Eng
set_option maxRecDepth 100000
set_option maxHeartbeats 4000000
namespace Go.Eng
open Go.Proofs Go.RowKit
noncomputable def Zat:FuncId×Con:=(45,⟨[.int .i64,.int .i64],[.leaf 4,.int .i64],fun p=>ZOi p.1 p.2⟩)
theorem rnew_k:KQ Zat:=Zh (Zx (C:=cf2 [(43,1),(45,4)] [Zte,Z5d]) .no Tryz.func45 [] (fun v vals x z ha hz=>by obtain ⟨c0,w0,e0,p0,c1,e1,p1⟩:=ha;exact .trans (by kernel_rfl) (Zcv p0.2 p1.2 hz)) ⟨Zyf,ZTe,tr⟩)
end Go.Eng
set_option maxRecDepth 100000
set_option maxHeartbeats 4000000
namespace Go.Eng
open Go.Proofs Go.RowKit
noncomputable def Z1j:FuncId×Con:=(12,⟨[.pair (.int .i64) (.int .i64)],[.leaf 4],fun p=>ZRd p⟩)
theorem rof_k:KQ Z1j:=Zh (Zx (C:=cf2 [(43,1),(45,4)] [Zte,Zat]) .no Tryz.func12 [] (fun v vals x z ha hz=>.trans (by kernel_rfl) (rofF_eq hz)) ⟨Zyf,rnew_k,tr⟩)
end Go.Eng
set_option maxRecDepth 100000
set_option maxHeartbeats 4000000
namespace Go.Eng
open Go.Proofs Go.RowKit
noncomputable def ZRe:FuncId×Con:=(151,⟨[.slice (.int .u64)],[.leaf 0],fun p=>Zpa p⟩)
theorem cut_r:KR ZRe:=Z0j (C:=cf2 [] []) (.n (.f (.j [] [] [.s 0 (.dat (.slice (.int .u64)))] (.f (.l [] [] [.s 0 (.dat (.slice (.int .u64)))] 0 [] [] [.s 0 (.dat (.slice (.int .u64)))] (.f (.f (.f (.j [0] [] [.s 14 (.dat .bool)] .no))))))))) Tryz.func151 [] [.slice (.int .u64)] [.slice (.int .u64)] (fun x=>(x)) (fun z=>(Zc 18446744073709551616 z)) (fun v vals x z ha hz=>by obtain ⟨c0,e0,p0⟩:=ha;exact .trans (by kernel_rfl) (by cases hz;exact (cut_eq (Znl p0).1 (Znl p0).2)))
theorem Zcg:KQ ZRe:=Zh cut_r
end Go.Eng
set_option maxRecDepth 100000
set_option maxHeartbeats 4000000
namespace Go.Eng
open Go.Proofs Go.RowKit
noncomputable def Z8h:FuncId×Con:=(128,⟨[.int .u64],[.leaf 0],fun p=>Z9b p⟩)
theorem ZYp:KR Z8h:=Zx (C:=cf2 [(55,0)] [ZRe]) .no Tryz.func128 [] (fun v vals x z ha hz=>.trans (by kernel_rfl) (ZYy hz)) ⟨Zcg,tr⟩
theorem Z0m:KQ Z8h:=Zh ZYp
end Go.Eng
set_option maxRecDepth 100000
set_option maxHeartbeats 4000000
namespace Go.Eng
open Go.Proofs Go.RowKit
noncomputable def of_q:FuncId×Con:=(94,⟨[.int .i64],[.leaf 2],fun p=>ofF p⟩)
theorem of_k:KQ of_q:=Zh (Zx (C:=cf0 [Z8h] [] [] []) .no Tryz.func94 [] (fun v vals x z ha hz=>by obtain ⟨c0,e0,p0⟩:=ha;exact .trans (by kernel_rfl) (ofF_eq p0.2 hz)) ⟨Z0m,tr⟩)
end Go.Eng
set_option maxRecDepth 100000
set_option maxHeartbeats 4000000
namespace Go.Eng
open Go.Proofs Go.RowKit
noncomputable def ZIm:FuncId×Con:=(54,⟨[.int .i64],[.leaf 3],fun p=>Zth p⟩)
theorem Zls:KQ ZIm:=Zh (Zx (C:=cf0 [of_q] [] [] []) .no Tryz.func54 [] (fun v vals x z ha hz=>.trans (by kernel_rfl) (Zdx hz)) ⟨of_k,tr⟩)
end Go.Eng
set_option maxRecDepth 100000
set_option maxHeartbeats 4000000
namespace Go.Eng
open Go.Proofs Go.RowKit
noncomputable def Z1o:FuncId×Con:=(175,⟨[.int .u64],[.int .i64],fun p=>ZLi p⟩)
theorem len64_k:KQ Z1o:=Zh (Zx (C:=cf2 [] []) (.n (.two (.n (.j [] [] [.s 0 (.dat (.int .u64)),.s 2 (.dat (.int .i64))] .no)) (.two (.n (.j [] [] [.s 0 (.dat (.int .u64)),.s 2 (.dat (.int .i64))] .no)) (.f (.n (.j [] [] [.s 0 (.dat (.int .u64)),.s 2 (.dat (.int .i64))] .no)))))) Tryz.func175 [] (fun v vals x z ha hz=>.trans (by kernel_rfl) (ZLy hz)))
end Go.Eng
set_option maxRecDepth 100000
set_option maxHeartbeats 4000000
namespace Go.Eng
open Go.Proofs Go.RowKit
noncomputable def Z2n:FuncId×Con:=(163,⟨[.int .u64],[.int .i64],fun p=>Znd p⟩)
theorem ZPo:KR Z2n:=Zx (C:=cf2 [] [Z1o]) .no Tryz.func163 [] (fun v vals x z ha hz=>.trans (by kernel_rfl) (Zbv hz)) ⟨len64_k,tr⟩
theorem lz64_k:KQ Z2n:=Zh ZPo
end Go.Eng
set_option maxRecDepth 100000
set_option maxHeartbeats 4000000
namespace Go.Eng
open Go.Proofs Go.RowKit
noncomputable def Zxn:FuncId×Con:=(150,⟨[.int .u64,.int .u64,.int .u64],[.int .u64,.int .u64],fun p=>ZGc p.1 p.2.1 p.2.2⟩)
theorem Zir:KR Zxn:=Zx (C:=cf2 [] [Z2n]) (.n (.n (.n (.n (.n (.n (.n (.n (.n (.n (.n (.n (.n (.n (.two (.j [2,8,9,10,11,13,14] [] [.s 15 (.dat (.int .u64))] (.f (.l [2,8,9,10,11,13,14] [] [.s 15 (.dat (.int .u64)),.s 16 (.dat (.int .u64))] 0 [2,8,9,10,11,13,14] [] [.s 15 (.dat (.int .u64))] (.f (.f (.f (.j [2,8,9,10,11,13,14,15,16] [] [.s 78 (.dat .bool)] .no))))))) (.n (.n (.n (.f (.j [2,8,14,15,17] [] [.s 18 (.dat (.int .u64))] (.f (.l [2,8,9,10,14,15,17] [] [.s 16 (.dat (.int .u64)),.s 18 (.dat (.int .u64))] 2 [2,8,14,15,17] [] [.s 18 (.dat (.int .u64))] (.f (.f (.f (.j [2,8,9,10,14,15,16,17,18] [] [.s 113 (.dat .bool)] .no)))))))))))))))))))))))))) Tryz.func150 [] (fun v vals x z ha hz=>.trans (by kernel_rfl) (ZHv hz)) ⟨lz64_k,tr⟩
theorem div64_k:KQ Zxn:=Zh Zir
end Go.Eng
set_option maxRecDepth 100000
set_option maxHeartbeats 4000000
namespace Go.Eng
open Go.Proofs Go.RowKit
noncomputable def ZUx:FuncId×Con:=(118,⟨[.leaf 0,.int .u64],[.leaf 0,.int .u64],fun p=>Zdd p.1 p.2⟩)
theorem Zku:KR ZUx:=Zx (C:=cf2 [(55,0)] [Zxn,ZRe]) (.n (.n (.n (.f (.n (.j [] [] [.s 6 (.own 153 (.int .u64)),.s 7 (.dat (.int .u64))] (.f (.l [0,1] [] [.s 6 (.own 153 (.int .u64)),.s 7 (.dat (.int .u64)),.s 8 (.dat (.int .i64))] 0 [] [] [.s 6 (.own 153 (.int .u64)),.s 7 (.dat (.int .u64))] .no)))))))) Tryz.func118 [] (fun v vals x z ha hz=>by obtain ⟨c0,w0,e0,p0,c1,e1,p1⟩:=ha;exact .trans (by kernel_rfl) (Zeu p1.2 hz)) ⟨div64_k,Zcg,tr⟩
end Go.Eng
namespace Go.Eng
open Go.Proofs Go.RowKit
theorem Zxq {h:World} {b:Zb} (hv:VIn b h) {c:List Value} {a:Nat} (i:Rep.rel Zs b c a) {d:List Value} {n:Int} (j:Rep.rel (Zd .u64) b d n) {z:Nat×Int} (hm:Zdd a n=some z) :
  Ret Tryz.prog 118 #[Zs.val c,(Zd .u64).val d] h b (fun y v'=>∃ f g,y=Value.tuple #[Zs.val f,(Zd .u64).val g]∧Zs.rel v' f z.1∧(Zd .u64).rel v' g z.2) :=
 (Zku h b [Zs.val c,(Zd .u64).val d] (a,n) z hv ⟨c,_,rfl,i,d,rfl,j⟩ hm).2.mono fun y v' _ ⟨_,e,f,_,q,k,g,q',l⟩=>by subst q';subst q;exact ⟨f,g,e,k,l⟩
end Go.Eng
set_option maxRecDepth 100000
set_option maxHeartbeats 4000000
namespace Go.Eng
open Go.Proofs Go.RowKit
noncomputable def Zjj:FuncId×Con:=(162,⟨[.leaf 0,.leaf 0],[.int .i64],fun p=>Z7c p.1 p.2⟩)
theorem cmp_r:KR Zjj:=Z0j (C:=cf2 [] []) (.n (.n (.f (.n (.cut ⟨⟨[],[],[]⟩,[(.norm,⟨[],[],[]⟩),(.ret,⟨[],[],[.s 1000 (.dat (.int .i64))]⟩)]⟩ (.f (.cut ⟨⟨[0,1],[],[.s 5 (.dat (.int .i64))]⟩,[(.ret,⟨[],[],[.s 1000 (.dat (.int .i64))]⟩),(.exit 0,⟨[],[],[]⟩)]⟩ .no))))))) Tryz.func162 [] [.slice (.int .u64),.slice (.int .u64)] [.int .i64] (fun x=>((Zc 18446744073709551616 x.1),(Zc 18446744073709551616 x.2))) (fun z=>z) (fun v vals x z ha hz=>by obtain ⟨c0,w0,e0,p0,c1,e1,p1⟩:=ha;exact .trans (by kernel_rfl) ((cmp_eq (ZFo p0) (ZFo p1)).trans hz))
theorem cmp_k:KQ Zjj:=Zh cmp_r
end Go.Eng
namespace Go.Eng
open Go.Proofs Go.RowKit
theorem cmp_c {f:World} {c:Zb} (hv:VIn c f) {d:List Value} {a:Nat} (h:Rep.rel Zs c d a) {e:List Value} {b:Nat} (i:Rep.rel Zs c e b) {z:Int} (hm:Z7c a b=some z) :
  Ret Tryz.prog 162 #[Zs.val d,Zs.val e] f c (fun y v'=>∃ g,y=(Zd .i64).val g∧(Zd .i64).rel v' g z) :=
 (cmp_r f c [Zs.val d,Zs.val e] (a,b) z hv ⟨d,_,rfl,h,e,rfl,i⟩ hm).2
theorem Z2k {d:World} {b:Zb} (hv:VIn b d) {c:List Value} {a:(List Int)} (f:Rep.rel (Zm (Zd .u64)) b c a) {z:Nat} (hm:Zpa a=some z) :
  Ret Tryz.prog 151 #[(Zm (Zd .u64)).val c] d b (fun y v'=>∃ e,y=Zs.val e∧Zs.rel v' e z) :=
 (cut_r d b [(Zm (Zd .u64)).val c] (a) z hv ⟨c,rfl,f⟩ hm).2
theorem div64_c {h:World} {a:Zb} (hv:VIn a h) {b:List Value} {hi:Int} (i:Rep.rel (Zd .u64) a b hi) {c:List Value} {lo:Int} (j:Rep.rel (Zd .u64) a c lo) {d:List Value} {y:Int} (k:Rep.rel (Zd .u64) a d y) {z:Int×Int} (hm:ZGc hi lo y=some z) :
  Ret Tryz.prog 150 #[(Zd .u64).val b,(Zd .u64).val c,(Zd .u64).val d] h a (fun y v'=>∃ f g,y=Value.tuple #[(Zd .u64).val f,(Zd .u64).val g]∧(Zd .u64).rel v' f z.1∧(Zd .u64).rel v' g z.2) :=
 (Zir h a [(Zd .u64).val b,(Zd .u64).val c,(Zd .u64).val d] (hi,lo,y) z hv ⟨b,_,rfl,i,c,_,rfl,j,d,rfl,k⟩ hm).2.mono fun y v' _ ⟨_,e,f,_,q,l,g,q',m⟩=>by subst q';subst q;exact ⟨f,g,e,l,m⟩
end Go.Eng
set_option maxRecDepth 100000
set_option maxHeartbeats 4000000
namespace Go.Eng
open Go.Proofs Go.RowKit
noncomputable def ZYm:FuncId×Con:=(160,⟨[.int .u64,.int .u64],[.int .u64,.int .u64],fun p=>Z5b p.1 p.2⟩)
theorem ZHs:KR ZYm:=Zx (C:=cf2 [] []) .no Tryz.func160 [] (fun v vals x z ha hz=>.trans (by kernel_rfl) (Z3w hz))
theorem mul64_k:KQ ZYm:=Zh ZHs
end Go.Eng
namespace Go.Eng
open Go.Proofs Go.RowKit
theorem Z7n {g:World} {a:Zb} (hv:VIn a g) {b:List Value} {x:Int} (h:Rep.rel (Zd .u64) a b x) {c:List Value} {y:Int} (i:Rep.rel (Zd .u64) a c y) {z:Int×Int} (hm:Z5b x y=some z) :
  Ret Tryz.prog 160 #[(Zd .u64).val b,(Zd .u64).val c] g a (fun y v'=>∃ d f,y=Value.tuple #[(Zd .u64).val d,(Zd .u64).val f]∧(Zd .u64).rel v' d z.1∧(Zd .u64).rel v' f z.2) :=
 (ZHs g a [(Zd .u64).val b,(Zd .u64).val c] (x,y) z hv ⟨b,_,rfl,h,c,rfl,i⟩ hm).2.mono fun y v' _ ⟨_,e,d,_,q,j,f,q',k⟩=>by subst q';subst q;exact ⟨d,f,e,j,k⟩
end Go.Eng
namespace Go.Eng
open Go.RowKit
theorem ZG {α:Type _} {a b:α} (h:some a=some b):a=b:=Option.some.inj h
theorem Zgb (b:Bool):b=true∨b=false:=(Bool.eq_false_or_eq_true b)
theorem leT {a b c:Zb} (h:a.le b) (k:b.le c):a.le c:=Zb.le_trans h k
theorem leR (v:Zb):v.le v:=Zb.le_refl v
theorem bO {α β:Type _} {x:Option α} {f:α→Option β} {z:β} {G:Prop} (h:bnd x f=some z) (k:∀ y,x=some y→f y=some z→G):G:=by obtain ⟨y,e,h⟩:=Zda h;exact k y e h
theorem ZP {P:Program} {Q:Exit→Act→World→Prop} {a:Act} {w:World} {id:Nat} {l:List Oper} (h:wpList P l.toArray Q l a w):(Code.region id l.toArray false).wp P Q a w:=wp_region_lit h
theorem Zy {P:Program} {Q:Exit→Act→World→Prop} {a:Act} {w:World} {x y:Code} (h:∀ K:Act→World→Prop,(∀ a w,y.wp P Q a w→K a w)→x.wp P (Exit.then K Q) a w):(Code.seq x y).wp P Q a w:=wp_seq_k h
theorem Zta {α:Type} {A:Rep α} {v v':Zb} {cs:List Value} {x:α} (hv:v.le v') (h:A.rel v cs x):A.rel v' cs x:=A.mono hv h
theorem Rflat {α:Type} (A:Rep α) {v:Zb} {cs:List Value} {x:α} (h:A.rel v cs x):cs.all plain=true:=A.flat h
theorem Atm {v v':Zb} {b off:Nat} {cs:List Value} (h:v.le v') (k:At v b off cs):At v' b off cs:=At.mono h k
end Go.Eng
namespace Go.Eng
open Go.Proofs Go.RowKit
theorem ZSq:Zmi Tryz.prog 227 20 1:=⟨5,fun _=>by kernel_rfl,fun _=>by kernel_rfl⟩
theorem ZPw:ConvI Tryz.prog 153 5 .u64 .u8:=fun _ _=>by kernel_rfl
theorem Zvs:Elem Tryz.prog 183 9 1 16 (Value.string (Zr [])):=⟨Tryz.underlying183,by kernel_rfl,rfl,by decide⟩
theorem Zji:Elem Tryz.prog 55 153 1 8 (Value.int IntKind.u64 0):=⟨Tryz.underlying55,by kernel_rfl,rfl,by decide⟩
theorem Zlr:ZH Tryz.prog 118:=fun _ _=>by kernel_rfl
theorem k_en119:ZH Tryz.prog 119:=fun _ _=>by kernel_rfl
theorem k_en120:ZH Tryz.prog 120:=fun _ _=>by kernel_rfl
theorem k_en121:ZH Tryz.prog 121:=fun _ _=>by kernel_rfl
theorem k_en122:ZH Tryz.prog 122:=fun _ _=>by kernel_rfl
theorem k_en128:ZH Tryz.prog 128:=fun _ _=>by kernel_rfl
theorem k_en150:ZH Tryz.prog 150:=fun _ _=>by kernel_rfl
theorem Zdj:ZH Tryz.prog 151:=fun _ _=>by kernel_rfl
theorem ZXl:ZH Tryz.prog 160:=fun _ _=>by kernel_rfl
theorem ZKt:ZH Tryz.prog 162:=fun _ _=>by kernel_rfl
theorem k_en163:ZH Tryz.prog 163:=fun _ _=>by kernel_rfl
theorem ZAo:ZH Tryz.prog 164:=fun _ _=>by kernel_rfl
theorem k_en165:ZH Tryz.prog 165:=fun _ _=>by kernel_rfl
theorem k_en166:ZH Tryz.prog 166:=fun _ _=>by kernel_rfl
theorem k_en177:ZH Tryz.prog 177:=fun _ _=>by kernel_rfl
theorem ZFt:Zqe Tryz.prog 176 add64Entry:=⟨_,Tryz.func176,by kernel_rfl,by kernel_rfl,by kernel_rfl,by kernel_rfl⟩
theorem ZIv:Zqe Tryz.prog 180 Z3k:=⟨_,Tryz.func180,by kernel_rfl,by kernel_rfl,by kernel_rfl,by kernel_rfl⟩
theorem Zrm:Tryz.prog.follows .mixedOrders=true:=by kernel_rfl
theorem ZZl:Zzb Tryz.prog 183 9 1:=⟨fun _=>by kernel_rfl,fun _=>by kernel_rfl⟩
theorem Z7:Zzb Tryz.prog 55 153 1:=⟨fun _=>by kernel_rfl,fun _=>by kernel_rfl⟩
theorem Zhb:Sized Tryz.prog 153 1 false:=⟨fun _=>by kernel_rfl,fun _=>by kernel_rfl⟩
theorem k_sz5:Sized Tryz.prog 5 1 false:=⟨fun _=>by kernel_rfl,fun _=>by kernel_rfl⟩
theorem k_sz9:Sized Tryz.prog 9 1 false:=⟨fun _=>by kernel_rfl,fun _=>by kernel_rfl⟩
theorem k_zv191:∀ w,(zeroValue 191).run Tryz.prog w = .ok (Value.agg #[Value.pointer none,Value.slice none 0 0]) w:=fun _=>by kernel_rfl
theorem k_zv227:∀ w,(zeroValue 227).run Tryz.prog w = .ok (Value.agg #[Value.int IntKind.u8 0,Value.int IntKind.u8 0,Value.int IntKind.u8 0,Value.int IntKind.u8 0,Value.int IntKind.u8 0,Value.int IntKind.u8 0,Value.int IntKind.u8 0,Value.int IntKind.u8 0,Value.int IntKind.u8 0,Value.int IntKind.u8 0,Value.int IntKind.u8 0,Value.int IntKind.u8 0,Value.int IntKind.u8 0,Value.int IntKind.u8 0,Value.int IntKind.u8 0,Value.int IntKind.u8 0,Value.int IntKind.u8 0,Value.int IntKind.u8 0,Value.int IntKind.u8 0,Value.int IntKind.u8 0]) w:=fun _=>by kernel_rfl
theorem take_w {R:World} {o:Zb} (hv:VIn o R) {a off0 g C:Nat} {E:TypeId} {pre0 cs0 post0:List Value} {u:(List Int)} (bg:R.heap[a]? = some (.cells (pre0++cs0++post0).toArray E (0,0))) (aH:off0=pre0.length) (bh:o a=none) (au:g=u.length) (bi:g≤C∧C≤maxLen) (r:Rep.rels (Zd .u64) o cs0 u) {c1:List Value} {v:Nat} (D:Rep.rel Zs o c1 v) {c2:List Value} {q:Int} (p2:Rep.rel (Zd .u64) o c2 q) {z:Bool×(List Int)} (H:ZIh u v q=some z):Z4c Tryz.prog 177 #[.slice (some ⟨a,off0,none⟩) g C,Zs.val c1,(Zd .u64).val c2] R o [a] (fun y v' w'=>(∃ r0,y=Ztb.val r0∧Ztb.rel v' r0 z.1)∧v' a=none∧∃ cs,w'.heap[a]? = some (.cells (pre0++cs++post0).toArray E (0,0))∧g=z.2.length∧Rep.rels (Zd .u64) v' cs z.2):=by
 obtain ⟨q1,V,W,rfl⟩:=ZBa D;obtain ⟨rfl,r4⟩:=p2;refine Zrs (K:=79) (args:=[.slice (some ⟨a,off0,none⟩) (g) C,.slice q1 V W,.int .u64 q]) hv bg bh Tryz.func177 rfl rfl zl fun f S=>?_;unfold ZIh at H;refine sr (mw S rfl fun f S=>oe (Zy fun _ bj=>bO H fun J bk H=>bO H fun cH av H=>ZP (mv S rfl fun f S=>ov S rfl (Z1b S (Z0a D) rfl rfl Z7) fun f S=>ov S rfl (ZA S rfl rfl (ZZf bk)) fun f S=>?_)));obtain ⟨aI,aR⟩:∃ c:List Value,c=(List.replicate (J).toNat [.int .u64 0]).flatten:=⟨_,rfl⟩;obtain ⟨aS,w,bm,S⟩:=Zqp Zji S (l:=J) (c:=J) (Zbd av).1 (Zbd av).2.1 (Zbd av).2.2.1 (Zbd av).2.2.2 aR;have bn:Rep.rels (Zd .u64) o aI (List.replicate (J).toNat (0:Int)):=by rw [aR];exact ZJg (show Rep.rel (Zd .u64) _ [.int .u64 0] _ from (Z1 (by decide))) _
 refine Zyc wn rfl zl (bm rfl rfl) S fun f S=>mw S rfl fun f S=>ZJ (Zp (bj _ _ (sr (mw S rfl fun f S=>oe (Zy fun _ bo=>sr (mv S rfl fun f S=>ov S rfl (Z1b S (Z0a D) rfl rfl Z7) fun f S=>mv S rfl fun f S=>oe ?_))))));obtain ⟨bp,bq,br⟩:=Zda H;refine ZHc (fun f w=>∃ L b aJ s G h X,(L,b)=bp∧Zb.le o X∧St 79 ⟨R,[a]⟩ o [(0,.slice (some ⟨a,off0,none⟩) (g) C),(1,.slice q1 V W),(7,.slice (mkA aJ) s G),(8,.int .u64 b)] [Loc.box a E (pre0++cs0++post0),Loc.own aJ 153 1 s G h] X f w∧Rep.rels (Zd .u64) X h L∧s=L.length∧inR .u64 b) (fun _ bs=>?_) ?_
 ·have H:=bq;refine wp_block ?_;obtain ⟨cI,bt,bu⟩:=Zda H;have S:=S.reorder (ℓ':=[Loc.box a E (pre0++cs0++post0),Loc.own (some aS) 153 1 ((J).toNat) (J).toNat aI]) [1,0] rfl (by decide);refine Zme bt (fun bv f w=>∃ Y ag m ax M Z I ay,(Y,ag,m)=bv∧Zb.le o ay∧St 79 ⟨R,[a]⟩ o [(0,.slice (some ⟨a,off0,none⟩) (g) C),(1,.slice q1 V W),(2,.int .u64 q),(7,.slice (mkA ax) M Z),(8,.int .u64 ag),(20,.slice q1 V W),(21,.int .i64 ((((Zc 18446744073709551616 v)).length:Int))),(22,.int .i64 m)] [Loc.box a E (pre0++cs0++post0),Loc.own ax 153 1 M Z I] ay f w∧Rep.rels (Zd .u64) ay I Y∧M=Y.length∧inR .u64 ag∧inR .i64 m) ⟨_,_,_,some aS,(J).toNat,(J).toNat,aI,_,rfl,(leR _),(S.fr' rfl),bn,(repN (x:=(0:Int))),(by decide),(by decide)⟩ ?_;rintro _ f w st ⟨Y,ag,m,ax,M,Z,I,ay,hq,az,S,ah,ai,bw,cJ⟩ H cK bx bz;subst hq;have r:=ZK az r;refine sr (ov S rfl (ZA S rfl rfl Z3d) fun f S=>oe (Zy fun _ bA=>?_));rcases Zgb (decide (m<(((Zc 18446744073709551616 v)).length:Int))) with aj | aj
  ·have H:=Zqb H aj;refine Zlb S rfl aj (wp_skip (Zp (bA _ _ (Zy fun _ bB=>wp_block (Zy fun _ bC=>bO H fun aK aL H=>ZP (mv S rfl fun f S=>?_))))));have D:=Zta az D;obtain ⟨_,aT,aU,cL,rfl,bD,bE⟩:=Z6b D (Zo aL).2.1;obtain ⟨rfl,bG⟩:=bE;refine ov S rfl (Zia S rfl rfl Z7 (Zo aL).1 (ltI (Z0a D) (Zo aL).2.2.1)) fun f S=>ov S rfl (Z9a S rfl Zhb (S.view bD)) fun f S=>mw S rfl fun f S=>mw S rfl fun f S=>ZJ (Zp (bC _ _ (Zy fun _ bH=>bO H fun aV bI H=>ZP (mv S rfl fun f S=>mv S rfl fun f S=>opc S rfl (Zja S [.int .u64 aK,.int .u64 q] ZXl rfl rfl) (Z7n S.vin (show Rep.rel (Zd .u64) _ [.int .u64 aK] aK from (Z1 bG)) (show Rep.rel (Zd .u64) _ [.int .u64 q] q from (Z1 r4)) bI) ?_))));rintro _ aW f w aM ⟨cM,cN,rfl,bJ,bK⟩ S;have r:=ZK aM r;have ah:=ZK aM ah;obtain ⟨rfl,cO⟩:=bJ;obtain ⟨rfl,cP⟩:=bK;refine mv S rfl fun f S=>ov S rfl (Zra S rfl rfl) fun f S=>ov S rfl (Zra S rfl rfl) fun f S=>mw S rfl fun f S=>mw S rfl fun f S=>ZJ (Zp (bH _ _ (sr (mw S rfl fun f S=>oe (Zy fun _ bM=>bO H fun N aX H=>bO H fun cQ aa H=>ZP ?_)))));refine mv S rfl fun f S=>mv S rfl fun f S=>mv S rfl fun f S=>mv S rfl fun f S=>ov S rfl (ZYj S [.int .u64 (aV.2),.int .u64 ag,.int .u64 0] (ZPm ZFt aX) rfl rfl) fun f S=>mv S rfl fun f S=>ov S rfl (Zra S rfl rfl) fun f S=>ov S rfl (Zra S rfl rfl) fun f S=>?_
   obtain ⟨aY,rfl⟩:=Z2c S (j:=1) rfl (posN ai (Zo aa).2.2.2);have aZ:=Zwa ah (Zo aa).2.1;obtain ⟨cR,bP⟩:∃ c,(List.take (Zd .u64).n (List.drop ((m).toNat*(Zd .u64).n) I))=c:=⟨_,rfl⟩;rw [bP] at aZ;obtain ⟨rfl,cS⟩:=aZ;refine ov S rfl (Zia S rfl rfl Z7 (Zo aa).1 (ltI ai (Zo aa).2.2.1)) fun f S=>?_;obtain ⟨w,bQ,S⟩:=Zvd S Zhb (off:=0+(m).toNat*1) (z:=.int .u64 (N.1)) (cs:=[.int .u64 (N.1)]) (ZZc rfl) rfl (i:=1) rfl (Zli S (j:=1) rfl (ltN ai (Zo aa).2.2.2)) (by first | rfl | simp [plain]);have bR:Rep.rels (Zd .u64) aW (List.take (0+(m).toNat*1) I++[Value.int IntKind.u64 (N.1)]++List.drop (0+(m).toNat*1+1) I) (Y.set (m).toNat N.1):=Z8g ah (Zo aa).2.2.2 (show Rep.rel (Zd .u64) aW [.int .u64 (N.1)] _ from (Z1 (Z1l aX))) rfl rfl;have bS:M=(Y.set (m).toNat N.1).length:=setN ai;refine Z9i wn rfl (bQ rfl rfl) (mw S rfl fun f S=>ZJ ?_);have S:=S.fr' (σ':=[(0,.slice (some ⟨a,off0,none⟩) (g) C),(1,.slice (some ⟨aT,aU,none⟩) V W),(2,.int .u64 q),(7,.slice (mkA (some aY)) (M) Z),(11,.int .u64 (aV.1)),(13,.int .u64 (N.2)),(20,.slice (some ⟨aT,aU,none⟩) V W),(21,.int .i64 ((((Zc 18446744073709551616 v)).length:Int))),(22,.int .i64 m)]) rfl
   refine Zp (bM _ _ (ZP (mv S rfl fun f S=>mv S rfl fun f S=>ov S rfl (ZA S rfl rfl Z0n) fun f S=>mw S rfl fun f S=>ZJ (Zxd (Zp (bB _ _ (bO H fun cT a0 H=>ZP (ov S rfl (ZA S rfl rfl (ZZf a0)) fun f S=>mv S rfl fun f S=>ZJ ?_))))))));obtain rfl:=ZG H;refine bx _ rfl _ _ ⟨_,_,_,some aY,M,Z,(List.take (0+(m).toNat*1) I++[Value.int IntKind.u64 (N.1)]++List.drop (0+(m).toNat*1+1) I),_,rfl,(leT az aM),(S.fr' rfl),bR,bS,(Z2b _ _),(Zvb a0).2⟩
  have H:=Zob H aj;refine Zza S rfl aj (wp_exit (Z1a ?_));obtain rfl:=ZG H;have hq:=bz _ rfl;subst hq;have H:=bu;refine Z1a (Zod ?_);obtain rfl:=ZG H;refine Zp (bs _ _ ⟨_,_,ax,M,Z,I,_,rfl,(leT (leR _) az),(S.fr' rfl),ah,ai,bw⟩)
 rintro f w ⟨L,b,aJ,s,G,h,X,hq,a1,S,a2,aA,bT⟩;subst hq;have H:=br;have r:=ZK a1 r;refine Zp (bo _ _ (Zy fun _ bU=>bO H fun cU ab H=>ZP (mv S rfl fun f S=>mv S rfl fun f S=>?_)));have D:=Zta a1 D;refine ov S rfl (Z1b S (Z0a D) rfl rfl Z7) fun f S=>mv S rfl fun f S=>?_;obtain ⟨ac,rfl⟩:=Z2c S (j:=1) rfl (posN aA (Zo ab).2.2.2);have a3:=Zwa a2 (Zo ab).2.1;obtain ⟨cV,bV⟩:∃ c,(List.take (Zd .u64).n (List.drop (((((Zc 18446744073709551616 v)).length:Int)).toNat*(Zd .u64).n) h))=c:=⟨_,rfl⟩;rw [bV] at a3;obtain ⟨rfl,cW⟩:=a3;refine ov S rfl (Zia S rfl rfl Z7 (Zo ab).1 (ltI aA (Zo ab).2.2.1)) fun f S=>?_;obtain ⟨w,bW,S⟩:=Zvd S Zhb (off:=0+((((Zc 18446744073709551616 v)).length:Int)).toNat*1) (z:=.int .u64 b) (cs:=[.int .u64 b]) (ZZc rfl) rfl (i:=1) rfl (Zli S (j:=1) rfl (ltN aA (Zo ab).2.2.2)) (by first | rfl | simp [plain]);have p:Rep.rels (Zd .u64) X (List.take (0+((((Zc 18446744073709551616 v)).length:Int)).toNat*1) h++[Value.int IntKind.u64 (b)]++List.drop (0+((((Zc 18446744073709551616 v)).length:Int)).toNat*1+1) h) (L.set ((((Zc 18446744073709551616 v)).length:Int)).toNat b):=Z8g a2 (Zo ab).2.2.2 (show Rep.rel (Zd .u64) X [.int .u64 b] _ from (Z1 bT)) rfl rfl
 have aN:s=(L.set ((((Zc 18446744073709551616 v)).length:Int)).toNat b).length:=setN aA;refine Z9i wn rfl (bW rfl rfl) (ZJ (Zp (bU _ _ (Zy fun _ bX=>Zy fun _ bY=>bO H fun cX bZ H=>bO H fun cY b1 H=>bO H fun b2 b3 H=>ZP (mv S rfl fun f S=>?_)))));have p0s120:=r;have h69s120:=p;have b4:=S.vst.le;obtain ⟨cZ,c0,a4,t,S,b5,b6,b7,T⟩:=S.lendSeg (i:=0) (A:=(Zd .u64)) (l:=u) (ℓ':=[Loc.own (some ac) 153 1 s G ((List.take (0+((((Zc 18446744073709551616 v)).length:Int)).toNat*1) h++[Value.int IntKind.u64 (b)]++List.drop (0+((((Zc 18446744073709551616 v)).length:Int)).toNat*1+1) h))]) rfl rfl aH r au bi;have p:=ZK a4 p;refine opc S rfl (Zja S [.slice (some ⟨a,off0,none⟩) (g) C] Zdj rfl rfl) (Z2k S.vin (show Rep.rel (Zm (Zd .u64)) _ [.slice (some ⟨a,off0,none⟩) (g) C] u from T) bZ) ?_;rintro _ c3 f w aB ⟨c4,rfl,P⟩ S;have p:=ZK aB p;have t:=aB _ _ t;obtain ⟨b8,b9,ca,rfl⟩:=ZBa P;refine mv S rfl fun f S=>?_;have T:=Zta aB T;have h128s137:=T;have h69s137:=p;have h133s137:=P;have h124s137:=t;have cb:=S.vst.le;obtain ⟨c5,c6,aC,ak,S,cc,ce,cg,ch⟩:=S.lendSlice (i:=0) (A:=(Zd .u64)) (l:=(L.set ((((Zc 18446744073709551616 v)).length:Int)).toNat b)) (ℓ':=[]) rfl rfl rfl p aN
 have t:=aC _ _ t;refine opc S rfl (Zja S [.slice (mkA (some ac)) (s) G] Zdj rfl rfl) (Z2k S.vin (show Rep.rel (Zm (Zd .u64)) _ [.slice (mkA (some ac)) (s) G] ((L.set ((((Zc 18446744073709551616 v)).length:Int)).toNat b)) from ch) b1) ?_;rintro _ c7 f w al ⟨c8,rfl,a5⟩ S;have t:=al _ _ t;have ak:=al _ _ ak;obtain ⟨ci,cj,ck,rfl⟩:=ZBa a5;have P:=Zta (leT aC al) P;refine opc S rfl (Zja S [.slice b8 b9 ca,.slice ci cj ck] ZKt rfl rfl) (cmp_c S.vin P a5 b3) ?_;rintro _ c9 f w am ⟨da,rfl,cl⟩ S;have t:=am _ _ t;have ak:=am _ _ ak;obtain ⟨rfl,db⟩:=cl;refine ov S rfl (ZA S rfl rfl Z3d) fun f S=>ZJ ?_;obtain ⟨dc,an,S⟩:=S.takeBack (e:=Loc.own (some ac) 153 1 s G ((List.take (0+((((Zc 18446744073709551616 v)).length:Int)).toNat*1) h++[Value.int IntKind.u64 (b)]++List.drop (0+((((Zc 18446744073709551616 v)).length:Int)).toNat*1+1) h))) (leT (leT aC al) am) rfl ak cc ce cb cg;have T:=Zta (leT (leT aC al) am) T;have T:=Zta an h128s137;have p:=ZK an h69s137;have P:=Zta am P;have P:=Zta an h133s137;have t:=an _ _ h124s137;obtain ⟨a6,a7,S⟩:=S.takeBack (e:=Loc.box a E (pre0++cs0++post0)) (leT (leT a4 aB) an) rfl t b5 b6 b4 b7;have r:=ZK a7 p0s120
 have p:=ZK a7 h69s120;refine Zp (bY _ _ ?_);rcases Zgb (decide (b2<(0:Int))) with ao | ao
 ·have H:=Zqb H ao;refine Zlb S rfl ao (sr (mw S rfl fun f S=>oe (wp_ret (ZVi ?_))));obtain rfl:=ZG H;refine ZHn S (ZNc rfl (ZOa S rfl)) ⟨⟨[.bool false],rfl,Z9q⟩,(S.boxAt (j:=0) rfl).2,_,(S.boxAt (j:=0) rfl).1,au,r⟩
 have H:=Zob H ao;refine Zza S rfl ao (wp_skip (Zp (bX _ _ (sr (mw S rfl fun f S=>oe (Zy fun _ cm=>sr (mv S rfl fun f S=>ov S rfl (Z1b S au rfl rfl Z7) fun f S=>mv S rfl fun f S=>oe ?_)))))));obtain ⟨cn,co,cp⟩:=Zda H;refine ZHc (fun f w=>∃ aD aO aE,aD=cn∧Zb.le a6 aE∧St 79 ⟨R,[a]⟩ o [] [Loc.box a E (pre0++aO++post0)] aE f w∧Rep.rels (Zd .u64) aE aO aD∧g=aD.length) (fun _ cq=>?_) ?_
 ·have H:=co;refine wp_block ?_;obtain ⟨dd,cr,ct⟩:=Zda H;refine Zme cr (fun cu f w=>∃ ad ap d B ae,(ad,ap,d)=cu∧Zb.le a6 ae∧St 79 ⟨R,[a]⟩ o [(0,.slice (some ⟨a,off0,none⟩) (g) C),(7,.slice (mkA (some ac)) (s) G),(14,.int .u64 ap),(58,.int .i64 ((u.length:Int))),(59,.int .i64 d)] [Loc.box a E (pre0++B++post0),Loc.own (some ac) 153 1 s G ((List.take (0+((((Zc 18446744073709551616 v)).length:Int)).toNat*1) h++[Value.int IntKind.u64 (b)]++List.drop (0+((((Zc 18446744073709551616 v)).length:Int)).toNat*1+1) h))] ae f w∧Rep.rels (Zd .u64) ae B ad∧g=ad.length∧inR .u64 ap∧inR .i64 d) ⟨_,_,_,cs0,_,rfl,(leR _),(S.fr' rfl),r,au,(by decide),(by decide)⟩ ?_;rintro _ f w st ⟨ad,ap,d,B,ae,hq,aP,S,af,Q,de,df⟩ H dg cv cw;subst hq;have p:=ZK aP p;refine sr (ov S rfl (ZA S rfl rfl Z3d) fun f S=>oe (Zy fun _ cx=>?_));rcases Zgb (decide (d<(u.length:Int))) with aq | aq
  ·have H:=Zqb H aq;refine Zlb S rfl aq (wp_skip (Zp (cx _ _ (Zy fun _ cy=>wp_block (sr (mv S rfl fun f S=>mw S rfl fun f S=>oe (bO H fun a8 aF H=>bO H fun a9 aG H=>bO H fun U aQ H=>bO H fun dh ar H=>Zrg (fl:=#[true,true,true,true,true,true,true,true,true,true,true,false,true,true,true,true,false,false]) Zrm (by kernel_rfl) S ?_)))))));intro ops O F w S;refine rfa O F 0 rfl rfl S (ZD S rfl) fun f S=>rfa O F 1 rfl rfl S (ZD S rfl) fun f S=>rfa O F 2 rfl rfl S (ZD S rfl) fun f S=>rfa O F 3 rfl rfl S (ZD S rfl) fun f S=>?_;have ba:=Zwa af (Zo aF).2.1;obtain ⟨di,bb⟩:∃ c,(List.take (Zd .u64).n (List.drop ((d).toNat*(Zd .u64).n) B))=c:=⟨_,rfl⟩;rw [bb] at ba;obtain ⟨rfl,cz⟩:=ba;refine rfa O F 4 rfl rfl S (Zia S rfl rfl Z7 (Zo aF).1 (ltI Q (Zo aF).2.2.1)) fun f S=>rfa O F 5 rfl rfl S (Z9a S rfl Zhb (Z6h S (j:=0) rfl aH (ZVd af Q) bb (ltN Q (Zo aF).2.2.2) 0 [.int .u64 a8] rfl zl)) fun f S=>rfa O F 6 rfl rfl S (ZD S rfl) fun f S=>rfa O F 7 rfl rfl S (ZD S rfl) fun f S=>?_;have bc:=Zwa p (Zo aG).2.1;obtain ⟨dj,bd⟩:∃ c,(List.take (Zd .u64).n (List.drop ((d).toNat*(Zd .u64).n) (List.take (0+((((Zc 18446744073709551616 v)).length:Int)).toNat*1) h++[Value.int IntKind.u64 (b)]++List.drop (0+((((Zc 18446744073709551616 v)).length:Int)).toNat*1+1) h)))=c:=⟨_,rfl⟩
   rw [bd] at bc;obtain ⟨rfl,cA⟩:=bc;refine rfa O F 8 rfl rfl S (Zia S rfl rfl Z7 (Zo aG).1 (ltI aN (Zo aG).2.2.1)) fun f S=>rfa O F 9 rfl rfl S (Z9a S rfl Zhb (ZId S (j:=1) rfl bd (ltN aN (Zo aG).2.2.2) 0 [.int .u64 a9] rfl zl)) fun f S=>rfa O F 10 rfl rfl S (ZD S rfl) fun f S=>go1 O F 11 (nva [5,9,10,4,8,2,3,6,7] [0,1] O rfl rfl S (ZYj S [.int .u64 a8,.int .u64 a9,.int .u64 ap] (Zcr ZIv cz cA aQ) rfl rfl) fun f S=>⟨(py S rfl rfl (ZD S rfl) (py S rfl rfl (ZD S rfl) Z7b)),rfa O F 12 rfl rfl S (ZD S rfl) fun f S=>rfa O F 13 rfl rfl S (Zra S rfl rfl) fun f S=>rfa O F 14 rfl rfl S (Zra S rfl rfl) fun f S=>?_⟩);have be:=Zwa af (Zo ar).2.1;obtain ⟨dk,cB⟩:∃ c,(List.take (Zd .u64).n (List.drop ((d).toNat*(Zd .u64).n) B))=c:=⟨_,rfl⟩;rw [cB] at be;obtain ⟨rfl,dl⟩:=be;refine rfa O F 15 rfl rfl S (Zia S rfl rfl Z7 (Zo ar).1 (ltI Q (Zo ar).2.2.1)) fun f S=>go1 O F 16 ?_;obtain ⟨w,cC,S⟩:=Znx S (k:=(d).toNat) Zhb (z:=.int .u64 (U.1)) (c:=[.int .u64 (U.1)]) (ZZc rfl) rfl (i:=0) rfl aH (ZVd af Q) (ltN Q (Zo ar).2.2.2) rfl (by first | rfl | simp [plain]);have cD:Rep.rels (Zd .u64) ae (List.take (0+(d).toNat*1) B++[Value.int IntKind.u64 (U.1)]++List.drop (0+(d).toNat*1+1) B) (ad.set (d).toNat U.1):=Z8g af (Zo ar).2.2.2 (show Rep.rel (Zd .u64) ae [.int .u64 (U.1)] _ from (Z1 (Znr aQ))) rfl rfl
   have cE:g=(ad.set (d).toNat U.1).length:=setN Q;refine nxs [0,1,2,3,4,5,6,7,8,9,10,11,12,13,15] [14] O rfl rfl (cC rfl rfl) (⟨(py S rfl rfl (Zra S rfl rfl) Z7b),go1 O F 17 (nva [0,1,2,3,4,5,6,7,8,9,10,11,12,13,14,15,16] [] O rfl rfl S (Zed S rfl) fun f S=>⟨Z7b,fin1 O F (Zxd (Zp (cy _ _ (bO H fun dm bf H=>ZP (ov S rfl (ZA S rfl rfl (ZZf bf)) fun f S=>mv S rfl fun f S=>ZJ ?_)))))⟩)⟩);obtain rfl:=ZG H;refine cv _ rfl _ _ ⟨_,_,_,(List.take (0+(d).toNat*1) B++[Value.int IntKind.u64 (U.1)]++List.drop (0+(d).toNat*1+1) B),_,rfl,aP,(S.fr' rfl),cD,cE,(Zht aQ),(Zvb bf).2⟩
  have H:=Zob H aq;refine Zza S rfl aq (wp_exit (Z1a ?_));obtain rfl:=ZG H;have hq:=cw _ rfl;subst hq;have H:=ct;refine Z1a (Zod ?_);obtain rfl:=ZG H;have S:=S.reorder (ℓ':=[Loc.box a E (pre0++B++post0)]) [0] rfl (by decide);refine Zp (cq _ _ ⟨_,B,_,rfl,(leT (leR _) aP),(S.fr' rfl),af,Q⟩)
 rintro f w ⟨aD,aO,aE,hq,dn,S,cF,cG⟩;subst hq;have H:=cp;refine Zp (cm _ _ (sr (mw S rfl fun f S=>oe (wp_ret ?_))));obtain rfl:=ZG H;refine ZHn S (ZNc rfl (ZOa S rfl)) ⟨⟨[.bool true],rfl,Z9q⟩,(S.boxAt (j:=0) rfl).2,_,(S.boxAt (j:=0) rfl).1,cG,cF⟩
theorem take_c {d:World} {a:Zb} (hv:VIn a d) {b off0 c e:Nat} {f:TypeId} {pre0 cs0 post0:List Value} {u:(List Int)} (l:d.heap[b]? = some (.cells (pre0++cs0++post0).toArray f (0,0))) (m:off0=pre0.length) (n:a b=none) (o:c=u.length) (p:c≤e∧e≤maxLen) (g:Rep.rels (Zd .u64) a cs0 u) {h:List Value} {v:Nat} (r:Rep.rel Zs a h v) {i:List Value} {q:Int} (j:Rep.rel (Zd .u64) a i q) {z:Bool×(List Int)} (hm:Zkh u v q=some z) :
  Z4c Tryz.prog 177 #[Value.slice (some ⟨b,off0,none⟩) c e,Zs.val h,(Zd .u64).val i] d a [b] (fun y v' w'=>(∃ k,y=Ztb.val k∧Ztb.rel v' k z.1)∧v' b=none∧∃ cs,w'.heap[b]? = some (.cells (pre0++cs++post0).toArray f (0,0))∧c=z.2.length∧Rep.rels (Zd .u64) v' cs z.2) :=
 take_w hv l m n o p g r j (Z0w (Z5l g) j.2 hm)
theorem digit_w {x:World} {m:Zb} (hv:VIn m x) {a off0 e h:Nat} {A:TypeId} {pre0 cs0 post0:List Value} {u:(List Int)} (a1:x.heap[a]? = some (.cells (pre0++cs0++post0).toArray A (0,0))) (G:off0=pre0.length) (a2:m a=none) (k:e=u.length) (a3:e≤h∧h≤maxLen) (d:Rep.rels (Zd .u64) m cs0 u) {c1:List Value} {v:Nat} (g:Rep.rel Zs m c1 v) {z:Int×(List Int)} (H:ZFi u v=some z):Z4c Tryz.prog 165 #[.slice (some ⟨a,off0,none⟩) e h,Zs.val c1] x m [a] (fun y v' w'=>(∃ r0,y=(Zd .u64).val r0∧(Zd .u64).rel v' r0 z.1)∧v' a=none∧∃ cs,w'.heap[a]? = some (.cells (pre0++cs++post0).toArray A (0,0))∧e=z.2.length∧Rep.rels (Zd .u64) v' cs z.2):=by
 obtain ⟨q1,o,p,rfl⟩:=ZBa g;refine Zrs (K:=90) (args:=[.slice (some ⟨a,off0,none⟩) (e) h,.slice q1 o p]) hv a1 a2 Tryz.func165 rfl rfl zl fun f S=>?_;unfold ZFi at H;refine sr (mw S rfl fun f S=>oe (sr (mv S rfl fun f S=>ov S rfl (Z1b S (Z0a g) rfl rfl Z7) fun f S=>mw S rfl fun f S=>oe (sr (mw S rfl fun f S=>oe (Zy fun _ a4=>Zy fun _ a5=>bO H fun aF V H=>?_))))));refine bO H fun cm a6 H=>bO H fun a7 aj H=>Zrg (fl:=#[true,true,true,true,true,true,true,true,true,true]) Zrm (by kernel_rfl) S ?_;intro ops O F w S;refine rfa O F 0 rfl rfl S (ZD S rfl) fun f S=>rfa O F 1 rfl rfl S (ZD S rfl) fun f S=>?_;have aG:=Zwa d (Zo V).2.1;obtain ⟨cn,aH⟩:∃ c,(List.take (Zd .u64).n (List.drop (((((Zc 18446744073709551616 v)).length:Int)).toNat*(Zd .u64).n) cs0))=c:=⟨_,rfl⟩;rw [aH] at aG;obtain ⟨rfl,co⟩:=aG;refine rfa O F 2 rfl rfl S (Zia S rfl rfl Z7 (Zo V).1 (ltI k (Zo V).2.2.1)) fun f S=>rfa O F 3 rfl rfl S (Z9a S rfl Zhb (Z6h S (j:=0) rfl G (ZVd d k) aH (ltN k (Zo V).2.2.2) 0 [.int .u64 aF] rfl zl)) fun f S=>rfa O F 4 rfl rfl S (ZD S rfl) fun f S=>rfa O F 5 rfl rfl S (ZD S rfl) fun f S=>rfa O F 6 rfl rfl S (ZA S rfl rfl (ZIb a6)) fun f S=>?_;obtain ⟨_,r,s,cp,rfl,a8,a9⟩:=Z6b g (Zo aj).2.1
 obtain ⟨rfl,cq⟩:=a9;refine rfa O F 7 rfl rfl S (Zia S rfl rfl Z7 (Zo aj).1 (ltI (Z0a g) (Zo aj).2.2.1)) fun f S=>rfa O F 8 rfl rfl S (Z9a S rfl Zhb (S.view a8)) fun f S=>rfa O F 9 rfl rfl S (ZA S rfl rfl Z3d) fun f S=>fin1 O F (Zp (a5 _ _ ?_));obtain ⟨ba,bb,bc⟩:=Zda H;refine ZHc (fun f w=>∃ W I,W=ba∧Zb.le m I∧St 90 ⟨x,[a]⟩ m [(0,.slice (some ⟨a,off0,none⟩) (e) h),(1,.slice (some ⟨r,s,none⟩) o p),(6,.int .u64 W)] [Loc.box a A (pre0++cs0++post0)] I f w∧inR .u64 W) (fun _ aI=>?_) ?_
 ·have H:=bb;rcases Zgb (decide (aF<a7)) with J | J
  ·have H:=Zqb H J;refine Zlb S rfl J (sr (mw S rfl fun f S=>oe (Zy fun _ bd=>bO H fun X Y H=>bO H fun be bf H=>bO H fun Z aa H=>bO H fun cr bg H=>bO H fun ak al H=>bO H fun aJ bh H=>Zrg (fl:=#[true,true,true,true,true,true,true,true,true,true,true,true,true,true,false,true,true,true,false,false]) Zrm (by kernel_rfl) S ?_)));intro ops O F w S;refine rfa O F 0 rfl rfl S (ZD S rfl) fun f S=>rfa O F 1 rfl rfl S (ZD S rfl) fun f S=>?_;have aK:=Zwa d (Zo Y).2.1;obtain ⟨ct,aL⟩:∃ c,(List.take (Zd .u64).n (List.drop (((((Zc 18446744073709551616 v)).length:Int)).toNat*(Zd .u64).n) cs0))=c:=⟨_,rfl⟩;rw [aL] at aK;obtain ⟨rfl,bi⟩:=aK;refine rfa O F 2 rfl rfl S (Zia S rfl rfl Z7 (Zo Y).1 (ltI k (Zo Y).2.2.1)) fun f S=>rfa O F 3 rfl rfl S (Z9a S rfl Zhb (Z6h S (j:=0) rfl G (ZVd d k) aL (ltN k (Zo Y).2.2.2) 0 [.int .u64 X] rfl zl)) fun f S=>rfa O F 4 rfl rfl S (ZD S rfl) fun f S=>rfa O F 5 rfl rfl S (ZD S rfl) fun f S=>rfa O F 6 rfl rfl S (ZA S rfl rfl (ZIb bf)) fun f S=>?_;have aM:=Zwa d (Zo aa).2.1;obtain ⟨cu,aN⟩:∃ c,(List.take (Zd .u64).n (List.drop ((be).toNat*(Zd .u64).n) cs0))=c:=⟨_,rfl⟩;rw [aN] at aM;obtain ⟨rfl,bj⟩:=aM;refine rfa O F 7 rfl rfl S (Zia S rfl rfl Z7 (Zo aa).1 (ltI k (Zo aa).2.2.1)) fun f S=>rfa O F 8 rfl rfl S (Z9a S rfl Zhb (Z6h S (j:=0) rfl G (ZVd d k) aN (ltN k (Zo aa).2.2.2) 0 [.int .u64 Z] rfl zl)) fun f S=>rfa O F 9 rfl rfl S (ZD S rfl) fun f S=>rfa O F 10 rfl rfl S (ZD S rfl) fun f S=>rfa O F 11 rfl rfl S (ZA S rfl rfl (ZIb bg)) fun f S=>?_
   obtain ⟨cv,am,bk⟩:=Z4n g (Zo al).2.1;obtain ⟨rfl,bm⟩:=bk;refine rfa O F 12 rfl rfl S (Zia S rfl rfl Z7 (Zo al).1 (ltI (Z0a g) (Zo al).2.2.1)) fun f S=>rfa O F 13 rfl rfl S (Z9a S rfl Zhb (S.view am)) fun f S=>go1 O F 14 (nxc [3,8,13,2,7,12,0,1,4,6,9,11,5,10] [] O rfl S rfl (Zja S [.int .u64 X,.int .u64 Z,.int .u64 ak] k_en150 rfl rfl) (div64_c S.vin (show Rep.rel (Zd .u64) _ [.int .u64 X] X from (Z1 bi)) (show Rep.rel (Zd .u64) _ [.int .u64 Z] Z from (Z1 bj)) (show Rep.rel (Zd .u64) _ [.int .u64 ak] ak from (Z1 bm)) bh) ?_);rintro _ aO f w ab ⟨cw,cx,rfl,bn,bo⟩ S;have d:=ZK ab d;have am:=Atm ab am;obtain ⟨rfl,bp⟩:=bn;obtain ⟨rfl,bq⟩:=bo;refine ⟨Z7b,rfa O F 15 rfl rfl S (ZD S rfl) fun f S=>rfa O F 16 rfl rfl S (Zra S rfl rfl) fun f S=>rfa O F 17 rfl rfl S (Zra S rfl rfl) fun f S=>go1 O F 18 (nva [0,1,2,3,4,5,6,7,8,9,10,11,12,13,14,15,16] [17] O rfl rfl S (Zed S rfl) fun f S=>⟨(py S rfl rfl (Zra S rfl rfl) Z7b),go1 O F 19 (nva [0,1,2,3,4,5,6,7,8,9,10,11,12,13,14,15,16,17,18] [] O rfl rfl S (Zed S rfl) fun f S=>⟨Z7b,fin1 O F ?_⟩)⟩)⟩;have S:=S.fr' (σ':=[(0,.slice (some ⟨a,off0,none⟩) (e) h),(1,.slice (some ⟨r,s,none⟩) o p),(5,.int .i64 ((((Zc 18446744073709551616 v)).length:Int))),(6,.int .u64 (aJ.1)),(7,.int .u64 (aJ.2))]) rfl
   refine Zp (bd _ _ ?_);obtain ⟨br,bs,bt⟩:=Zda H;refine ZHc (fun f w=>∃ ac an,ac=br∧Zb.le aO an∧St 90 ⟨x,[a]⟩ m [(0,.slice (some ⟨a,off0,none⟩) (e) h),(1,.slice (some ⟨r,s,none⟩) o p),(6,.int .u64 ac)] [Loc.box a A (pre0++cs0++post0)] an f w∧inR .u64 ac) (fun _ aP=>?_) ?_
   ·have H:=bs;refine wp_block ?_;obtain ⟨cy,bu,aQ⟩:=Zda H;refine Zme bu (fun bv f w=>∃ q l ao,(q,l)=bv∧Zb.le aO ao∧St 90 ⟨x,[a]⟩ m [(0,.slice (some ⟨a,off0,none⟩) (e) h),(1,.slice (some ⟨r,s,none⟩) o p),(5,.int .i64 ((((Zc 18446744073709551616 v)).length:Int))),(6,.int .u64 q),(7,.int .u64 l)] [Loc.box a A (pre0++cs0++post0)] ao f w∧inR .u64 q∧inR .u64 l) ⟨_,_,_,rfl,(leR _),(S.fr' rfl),bp,bq⟩ ?_;rintro _ f w st ⟨q,l,ao,hq,L,S,aR,cz⟩ H cA bw aS;subst hq;have d:=ZK L d;refine wp_block (Zy fun _ bx=>bO H fun cB bz H=>bO H fun ap aq H=>bO H fun B bA H=>ZP (mv S rfl fun f S=>mv S rfl fun f S=>mv S rfl fun f S=>ov S rfl (ZA S rfl rfl (ZIb bz)) fun f S=>?_));have g:=Zta (leT ab L) g;obtain ⟨cC,ar,bB⟩:=Z4n g (Zo aq).2.1;obtain ⟨rfl,bC⟩:=bB;refine ov S rfl (Zia S rfl rfl Z7 (Zo aq).1 (ltI (Z0a g) (Zo aq).2.2.1)) fun f S=>ov S rfl (Z9a S rfl Zhb (S.view ar)) fun f S=>opc S rfl (Zja S [.int .u64 q,.int .u64 ap] ZXl rfl rfl) (Z7n S.vin (show Rep.rel (Zd .u64) _ [.int .u64 q] q from (Z1 aR)) (show Rep.rel (Zd .u64) _ [.int .u64 ap] ap from (Z1 bC)) bA) ?_;rintro _ bD f w E ⟨cD,cE,rfl,bE,bG⟩ S
    have d:=ZK E d;have ar:=Atm E ar;obtain ⟨rfl,cF⟩:=bE;obtain ⟨rfl,cG⟩:=bG;refine mv S rfl fun f S=>ov S rfl (Zra S rfl rfl) fun f S=>ov S rfl (Zra S rfl rfl) fun f S=>mw S rfl fun f S=>mw S rfl fun f S=>ZJ (Zp (bx _ _ (Zy fun _ bH=>Zy fun _ bI=>?_)));obtain ⟨bJ,bK,bM⟩:=Zda H;refine ZHc (fun f w=>∃ ad au,ad=bJ∧Zb.le bD au∧St 90 ⟨x,[a]⟩ m [(0,.slice (some ⟨a,off0,none⟩) (e) h),(1,.slice (some ⟨r,s,none⟩) o p),(5,.int .i64 ((((Zc 18446744073709551616 v)).length:Int))),(6,.int .u64 q),(7,.int .u64 l),(67,.bool ad)] [Loc.box a A (pre0++cs0++post0)] au f w) (fun _ av=>?_) ?_
    ·have H:=bK;refine ZP (mv S rfl fun f S=>mv S rfl fun f S=>ov S rfl (ZA S rfl rfl Z3d) fun f S=>mv S rfl fun f S=>?_);rcases Zgb (decide (B.1<l)) with M | M
     ·have H:=Zqb H M;have S:=S.bool (t:=54) rfl M;refine opn S rfl rfl rfl rfl fun f S=>opn S rfl rfl rfl rfl fun f S=>opn S rfl rfl rfl rfl fun f S=>opn S rfl rfl rfl rfl fun f S=>Z1e S (ZSd S rfl rfl rfl zl) rfl zl fun f S=>Z1e S (ZSd S rfl rfl rfl zl) rfl zl fun f S=>Z1e S (ZSd S rfl rfl rfl zl) rfl zl fun f S=>Z1e S (ZSd S rfl rfl rfl zl) rfl zl fun f S=>Z1e S (ZSd S rfl rfl rfl zl) rfl zl fun f S=>Z1e S (ZSd S rfl rfl rfl zl) rfl zl fun f S=>Z1e S (ZSd S rfl rfl rfl zl) rfl zl fun f S=>opn S rfl rfl rfl rfl fun f S=>ov S rfl (ZPe S (b:=true) rfl rfl) fun f S=>ZJ ?_;have S:=S.fr' (σ':=[(0,.slice (some ⟨a,off0,none⟩) (e) h),(1,.slice (some ⟨r,s,none⟩) o p),(5,.int .i64 ((((Zc 18446744073709551616 v)).length:Int))),(6,.int .u64 q),(7,.int .u64 l),(55,undef),(56,undef),(57,undef),(58,undef),(59,undef),(60,undef),(61,undef),(62,undef),(63,undef),(64,undef),(65,undef),(66,undef),(67,.bool true)]) rfl;obtain rfl:=ZG H;refine Zp (av _ _ ⟨_,_,rfl,(leR _),(S.fr' rfl)⟩)
     have H:=Zob H M;have S:=S.bool (t:=54) rfl M;refine opy S rfl rfl rfl rfl (ZD S rfl) fun f S=>opy S rfl rfl rfl rfl (ZD S rfl) fun f S=>opy S rfl rfl rfl rfl (ZA S rfl rfl Znh) fun f S=>opy S rfl rfl rfl rfl (ZD S rfl) fun f S=>?_;rcases Zgb (B.1==l) with C | C
     ·have H:=Zqb H C;have S:=S.bool (t:=57) rfl C;have S:=S.bool (t:=58) rfl C;refine bO H fun ax bP H=>bO H fun N ae H=>opy S rfl rfl rfl rfl (ZD S rfl) fun f S=>opy S rfl rfl rfl rfl (ZD S rfl) fun f S=>opy S rfl rfl rfl rfl (ZD S rfl) fun f S=>opy S rfl rfl rfl rfl (ZA S rfl rfl (ZIb bP)) fun f S=>?_;have aT:=Zwa d (Zo ae).2.1;obtain ⟨cH,aU⟩:∃ c,(List.take (Zd .u64).n (List.drop ((ax).toNat*(Zd .u64).n) cs0))=c:=⟨_,rfl⟩;rw [aU] at aT;obtain ⟨rfl,cI⟩:=aT;refine opy S rfl rfl rfl rfl (Zia S rfl rfl Z7 (Zo ae).1 (ltI k (Zo ae).2.2.1)) fun f S=>opy S rfl rfl rfl rfl (Z9a S rfl Zhb (Z6h S (j:=0) rfl G (ZVd d k) aU (ltN k (Zo ae).2.2.2) 0 [.int .u64 N] rfl zl)) fun f S=>opy S rfl rfl rfl rfl (ZA S rfl rfl ZPp) fun f S=>opy S rfl rfl rfl rfl (ZPe S (b:=true) rfl rfl) fun f S=>ov S rfl (ZPe S (b:=false) rfl rfl) fun f S=>ZJ ?_;have S:=S.fr' (σ':=[(0,.slice (some ⟨a,off0,none⟩) (e) h),(1,.slice (some ⟨r,s,none⟩) o p),(5,.int .i64 ((((Zc 18446744073709551616 v)).length:Int))),(6,.int .u64 q),(7,.int .u64 l),(55,.int .u64 (B.1)),(56,.int .u64 l),(57,.bool true),(58,.bool true),(59,.int .u64 (B.2)),(60,.slice (some ⟨a,off0,none⟩) (e) h),(61,.int .i64 ((((Zc 18446744073709551616 v)).length:Int))),(62,.int .i64 ax),(63,.pointer (some ⟨a,off0+(ax).toNat*1,none⟩)),(64,.int .u64 N),(65,.bool (decide (B.2≤N))),(66,.bool (decide (B.2≤N))),(67,.bool (decide (B.2≤N)))]) rfl
      obtain rfl:=ZG H;refine Zp (av _ _ ⟨_,_,rfl,(leR _),(S.fr' rfl)⟩)
     have H:=Zob H C;have S:=S.bool (t:=57) rfl C;have S:=S.bool (t:=58) rfl C;refine opn S rfl rfl rfl rfl fun f S=>opn S rfl rfl rfl rfl fun f S=>opn S rfl rfl rfl rfl fun f S=>opn S rfl rfl rfl rfl fun f S=>opn S rfl rfl rfl rfl fun f S=>opn S rfl rfl rfl rfl fun f S=>opn S rfl rfl rfl rfl fun f S=>opy S rfl rfl rfl rfl (ZPe S (b:=false) rfl rfl) fun f S=>ov S rfl (ZPe S (b:=false) rfl rfl) fun f S=>ZJ ?_;have S:=S.fr' (σ':=[(0,.slice (some ⟨a,off0,none⟩) (e) h),(1,.slice (some ⟨r,s,none⟩) o p),(5,.int .i64 ((((Zc 18446744073709551616 v)).length:Int))),(6,.int .u64 q),(7,.int .u64 l),(55,.int .u64 (B.1)),(56,.int .u64 l),(57,.bool false),(58,.bool false),(59,undef),(60,undef),(61,undef),(62,undef),(63,undef),(64,undef),(65,undef),(66,.bool false),(67,.bool false)]) rfl;obtain rfl:=ZG H;refine Zp (av _ _ ⟨_,_,rfl,(leR _),(S.fr' rfl)⟩)
    rintro f w ⟨ad,au,hq,P,S⟩;subst hq;have H:=bM;have d:=ZK P d;refine Zp (bI _ _ ?_);rcases Zgb (ad) with Q | Q
    ·have H:=Zqb H Q;refine Zlb S rfl Q (wp_exit (Z1a (ZFr rfl ?_)));obtain rfl:=ZG H;have hq:=aS _ rfl;subst hq;have H:=aQ;refine Z1a (Zod ?_);obtain rfl:=ZG H;refine Zp (aP _ _ ⟨_,_,rfl,(leT (leT (leT (leR _) L) E) P),(S.fr' rfl),aR⟩)
    have H:=Zob H Q;refine Zza S rfl Q (wp_skip (Zp (bH _ _ (sr (mv S rfl fun f S=>ov S rfl (ZA S rfl rfl Zmn) fun f S=>mw S rfl fun f S=>oe (sr (mw S rfl fun f S=>oe (Zy fun _ bQ=>bO H fun cJ bR H=>bO H fun bS ay H=>?_))))))));refine bO H fun bT aV H=>ZP (mv S rfl fun f S=>mv S rfl fun f S=>mv S rfl fun f S=>ov S rfl (ZA S rfl rfl (ZIb bR)) fun f S=>?_);have g:=Zta (leT E P) g;obtain ⟨cK,bU,bV⟩:=Z4n g (Zo ay).2.1;obtain ⟨rfl,cL⟩:=bV;refine ov S rfl (Zia S rfl rfl Z7 (Zo ay).1 (ltI (Z0a g) (Zo ay).2.2.1)) fun f S=>ov S rfl (Z9a S rfl Zhb (S.view bU)) fun f S=>ov S rfl (ZYj S [.int .u64 l,.int .u64 bS,.int .u64 0] (ZPm ZFt aV) rfl rfl) fun f S=>mv S rfl fun f S=>ov S rfl (Zra S rfl rfl) fun f S=>ov S rfl (Zra S rfl rfl) fun f S=>mw S rfl fun f S=>mw S rfl fun f S=>ZJ (Zp (bQ _ _ (sr (mv S rfl fun f S=>ov S rfl (ZA S rfl rfl ZAf) fun f S=>oe ?_))));rcases Zgb (decide ((0:Int)<bT.2)) with R | R
    ·have H:=Zqb H R;refine Zlb S rfl R (wp_exit (ZFr rfl ?_));obtain rfl:=ZG H;have hq:=aS _ rfl;subst hq;have H:=aQ;refine Z1a (Zod ?_);obtain rfl:=ZG H;refine Zp (aP _ _ ⟨_,_,rfl,(leT (leT (leT (leR _) L) E) P),(S.fr' rfl),(Z2b _ _)⟩)
    have H:=Zob H R;refine Zza S rfl R (wp_skip (Zxd ?_));obtain rfl:=ZG H;refine bw _ rfl _ _ ⟨_,_,_,rfl,(leT (leT L E) P),(S.fr' rfl),(Z2b _ _),(Z1l aV)⟩
   rintro f w ⟨ac,an,hq,aW,S,bW⟩;subst hq;have H:=bt;have d:=ZK aW d;obtain rfl:=ZG H;refine Zp (aI _ _ ⟨_,_,rfl,(leT (leT (leR _) ab) aW),(S.fr' rfl),bW⟩)
  have H:=Zob H J;refine Zza S rfl J (wp_skip ?_);obtain rfl:=ZG H;refine Zp (aI _ _ ⟨_,_,rfl,(leR _),(S.fr' rfl),(by decide)⟩)
 rintro f w ⟨W,I,hq,aX,S,bX⟩;subst hq;have H:=bc;have d:=ZK aX d;refine Zp (a4 _ _ (Zy fun _ bY=>?_));obtain ⟨bZ,b1,b2⟩:=Zda H;refine ZHc (fun f w=>∃ af T az ag,(af,T)=bZ∧Zb.le I ag∧St 90 ⟨x,[a]⟩ m [(6,.int .u64 T)] [Loc.box a A (pre0++az++post0)] ag f w∧Rep.rels (Zd .u64) ag az af∧e=af.length∧inR .u64 T) (fun _ b3=>?_) ?_
 ·have H:=b1;refine wp_block ?_;obtain ⟨cM,b4,b5⟩:=Zda H;refine Zme b4 (fun b6 f w=>∃ ah D aA ai,(ah,D)=b6∧Zb.le I ai∧St 90 ⟨x,[a]⟩ m [(0,.slice (some ⟨a,off0,none⟩) (e) h),(1,.slice (some ⟨r,s,none⟩) o p),(6,.int .u64 D)] [Loc.box a A (pre0++aA++post0)] ai f w∧Rep.rels (Zd .u64) ai aA ah∧e=ah.length∧inR .u64 D) ⟨_,_,cs0,_,rfl,(leR _),(S.fr' rfl),d,k,bX⟩ ?_;rintro _ f w st ⟨ah,D,aA,ai,hq,aB,S,aC,b7,aY⟩ H cN b8 b9;subst hq;refine Zy fun _ ca=>Zy fun _ cb=>bO H fun cc ce H=>ZP (mv S rfl fun f S=>mv S rfl fun f S=>mv S rfl fun f S=>?_);have g:=Zta (leT aX aB) g;refine Zkr S wn rfl zl (Zja S [.slice (some ⟨a,off0,none⟩) (e) h,.slice (some ⟨r,s,none⟩) o p,.int .u64 D] k_en177 rfl rfl) (i:=0) rfl rfl (take_c S.vin (S.boxAt (j:=0) rfl).1 G (S.boxAt (j:=0) rfl).2 b7 a3 aC g (show Rep.rel (Zd .u64) _ [.int .u64 D] D from (Z1 aY)) ce) ?_;rintro _ cO f w aD ⟨⟨cP,rfl,cg⟩,ch,aE,ci,aZ,a0⟩ hSf;have aC:=ZK aD aC;have S:=hSf (Loc.box a A (pre0++aE++post0)) rfl ci ch;obtain rfl:=cg;refine ov S rfl (Zzr S rfl) fun f S=>ZJ (Zp (cb _ _ ?_));rcases Zgb (!(cc.1)) with U | U
  ·have H:=Zqb H U;refine Zlb S rfl U (wp_skip (Zp (ca _ _ (wp_block (ZP (mv S rfl fun f S=>ov S rfl (ZA S rfl rfl Zmn) fun f S=>mw S rfl fun f S=>ZJ (Zxd ?_)))))));obtain rfl:=ZG H;refine b8 _ rfl _ _ ⟨_,_,aE,_,rfl,(leT aB aD),(S.fr' rfl),a0,aZ,(Z2b _ _)⟩
  have H:=Zob H U;refine Zza S rfl U (wp_exit (Z1a ?_));obtain rfl:=ZG H;have hq:=b9 _ rfl;subst hq;have H:=b5;refine Z1a (Zod ?_);obtain rfl:=ZG H;refine Zp (b3 _ _ ⟨_,_,aE,_,rfl,(leT (leT (leR _) aB) aD),(S.fr' rfl),a0,aZ,aY⟩)
 rintro f w ⟨af,T,az,ag,hq,cQ,S,cj,ck,cl⟩;subst hq;have H:=b2;refine Zp (bY _ _ (sr (mv S rfl fun f S=>mw S rfl fun f S=>oe (wp_ret ?_))));obtain rfl:=ZG H;refine ZHn S (ZNc rfl (ZOa S rfl)) ⟨⟨[.int .u64 T],rfl,(Z1 cl)⟩,(S.boxAt (j:=0) rfl).2,_,(S.boxAt (j:=0) rfl).1,ck,cj⟩
theorem digit_c {d:World} {b:Zb} (hv:VIn b d) {a off0 c e:Nat} {f:TypeId} {pre0 cs0 post0:List Value} {u:(List Int)} (j:d.heap[a]? = some (.cells (pre0++cs0++post0).toArray f (0,0))) (k:off0=pre0.length) (l:b a=none) (m:c=u.length) (n:c≤e∧e≤maxLen) (g:Rep.rels (Zd .u64) b cs0 u) {h:List Value} {v:Nat} (o:Rep.rel Zs b h v) {z:Int×(List Int)} (hm:Z6g u v=some z) :
  Z4c Tryz.prog 165 #[Value.slice (some ⟨a,off0,none⟩) c e,Zs.val h] d b [a] (fun y v' w'=>(∃ i,y=(Zd .u64).val i∧(Zd .u64).rel v' i z.1)∧v' a=none∧∃ cs,w'.heap[a]? = some (.cells (pre0++cs++post0).toArray f (0,0))∧c=z.2.length∧Rep.rels (Zd .u64) v' cs z.2) :=
 digit_w hv j k l m n g o (Zxw (Z5l g) hm)
end Go.Eng
set_option maxRecDepth 100000
set_option maxHeartbeats 4000000
namespace Go.Eng
open Go.Proofs Go.RowKit
noncomputable def left_q:FuncId×Con:=(164,⟨[.leaf 0,.int .i64],[.leaf 0],fun p=>Zkd p.1 p.2⟩)
theorem left_r:KR left_q:=Zx (C:=cf2 [(55,0)] [ZRe]) (.n (.two (.f (.j [0,1] [] [.s 14 (.dat .bool)] .no)) (.n (.f (.n (.j [] [] [.s 5 (.own 153 (.int .u64))] (.f (.l [1,23,24] [] [.s 5 (.own 153 (.int .u64)),.s 25 (.dat (.int .i64))] 0 [] [] [.s 5 (.own 153 (.int .u64))] .no)))))))) Tryz.func164 [] (fun v vals x z ha hz=>.trans (by kernel_rfl) (Z4w hz)) ⟨Zcg,tr⟩
end Go.Eng
namespace Go.Eng
open Go.Proofs Go.RowKit
theorem ZBq {e:World} {b:Zb} (hv:VIn b e) {c:List Value} {a:Nat} (g:Rep.rel Zs b c a) {d:List Value} {n:Int} (h:Rep.rel (Zd .i64) b d n) {z:Nat} (hm:Zkd a n=some z) :
  Ret Tryz.prog 164 #[Zs.val c,(Zd .i64).val d] e b (fun y v'=>∃ f,y=Zs.val f∧Zs.rel v' f z) :=
 (left_r e b [Zs.val c,(Zd .i64).val d] (a,n) z hv ⟨c,_,rfl,g,d,rfl,h⟩ hm).2
theorem lz64_c {c:World} {a:Zb} (hv:VIn a c) {b:List Value} {x:Int} (e:Rep.rel (Zd .u64) a b x) {z:Int} (hm:Znd x=some z) :
  Ret Tryz.prog 163 #[(Zd .u64).val b] c a (fun y v'=>∃ d,y=(Zd .i64).val d∧(Zd .i64).rel v' d z) :=
 (ZPo c a [(Zd .u64).val b] (x) z hv ⟨b,rfl,e⟩ hm).2
end Go.Eng
set_option maxRecDepth 100000
set_option maxHeartbeats 4000000
namespace Go.Eng
open Go.Proofs Go.RowKit
noncomputable def right_q:FuncId×Con:=(166,⟨[.leaf 0,.int .i64],[.leaf 0],fun p=>Z9e p.1 p.2⟩)
theorem right_r:KR right_q:=Zx (C:=cf2 [(55,0)] [ZRe]) (.n (.n (.n (.f (.n (.j [] [] [.s 5 (.own 153 (.int .u64))] (.f (.l [0,1,19] [] [.s 5 (.own 153 (.int .u64)),.s 20 (.dat (.int .i64))] 0 [] [] [.s 5 (.own 153 (.int .u64))] (.f (.n (.n (.f (.f (.n (.n (.n (.j [0,1,19,20] [] [.s 5 (.own 153 (.int .u64))] .no))))))))))))))))) Tryz.func166 [] (fun v vals x z ha hz=>by obtain ⟨c0,w0,e0,p0,c1,e1,p1⟩:=ha;exact .trans (by kernel_rfl) (ZVv p1.2 hz)) ⟨Zcg,tr⟩
end Go.Eng
namespace Go.Eng
open Go.Proofs Go.RowKit
theorem right_c {e:World} {b:Zb} (hv:VIn b e) {c:List Value} {a:Nat} (g:Rep.rel Zs b c a) {d:List Value} {n:Int} (h:Rep.rel (Zd .i64) b d n) {z:Nat} (hm:Z9e a n=some z) :
  Ret Tryz.prog 166 #[Zs.val c,(Zd .i64).val d] e b (fun y v'=>∃ f,y=Zs.val f∧Zs.rel v' f z) :=
 (right_r e b [Zs.val c,(Zd .i64).val d] (a,n) z hv ⟨c,_,rfl,g,d,rfl,h⟩ hm).2
theorem word_c {c:World} {a:Zb} (hv:VIn a c) {b:List Value} {n:Int} (e:Rep.rel (Zd .u64) a b n) {z:Nat} (hm:Z9b n=some z) :
  Ret Tryz.prog 128 #[(Zd .u64).val b] c a (fun y v'=>∃ d,y=Zs.val d∧Zs.rel v' d z) :=
 (ZYp c a [(Zd .u64).val b] (n) z hv ⟨b,rfl,e⟩ hm).2
theorem ZEu {w0:World} {F:Zb} (hv:VIn F w0) {c0:List Value} {a:Nat} (m:Rep.rel Zs F c0 a) {c1:List Value} {b:Nat} (g:Rep.rel Zs F c1 b) {z:Nat×Nat} (H:Zii a b=some z):Ret Tryz.prog 131 #[Zs.val c0,Zs.val c1] w0 F (fun y v'=>∃ r0 r1,y = .tuple #[Zs.val r0,Zs.val r1]∧Zs.rel v' r0 z.1∧Zs.rel v' r1 z.2):=by
 obtain ⟨R,T,U,rfl⟩:=ZBa m;obtain ⟨q4,n5,k6,rfl⟩:=ZBa g;refine Zki (K:=84) (args:=[.slice R T U,.slice q4 n5 k6]) hv Tryz.func131 rfl rfl zl fun f S=>?_;unfold Zii at H;refine sr (mw S rfl fun f S=>mw S rfl fun f S=>oe (Zy fun _ bc=>wp_block (Zy fun _ bd=>bO H fun be bf H=>ZP (mv S rfl fun f S=>mv S rfl fun f S=>opc S rfl (Zja S [.slice R T U,.slice q4 n5 k6] ZKt rfl rfl) (cmp_c S.vin m g bf) ?_))));rintro _ cX f w aj ⟨cY,rfl,bg⟩ S;obtain ⟨rfl,cZ⟩:=bg;refine ov S rfl (ZA S rfl rfl Z3d) fun f S=>mw S rfl fun f S=>ZJ (Zp (bd _ _ ?_));rcases Zgb (decide (be<(0:Int))) with V | V
 ·have H:=Zqb H V;refine Zlb S rfl V (sr (mv S rfl fun f S=>mw S rfl fun f S=>mw S rfl fun f S=>oe (wp_ret (ZGp (ZVi ?_)))));obtain rfl:=ZG H;have m:=Zta aj m;refine ZDf S (Z4j rfl (ZOa S rfl) (ZOa S rfl)) ⟨[.slice none 0 0],[.slice R T U],rfl,(Zqi _),m⟩
 have H:=Zob H V;refine Zza S rfl V (sr (mv S rfl fun f S=>?_));have g:=Zta aj g;refine ov S rfl (Z1b S (Z0a g) rfl rfl Z7) fun f S=>ov S rfl (ZA S rfl rfl Znh) fun f S=>mw S rfl fun f S=>oe ?_;rcases Zgb (((((Zc 18446744073709551616 b)).length:Int))==(1:Int)) with W | W
 ·have H:=Zqb H W;refine Zlb S rfl W (Zy fun _ bh=>bO H fun au av H=>bO H fun ax bi H=>ZP (mv S rfl fun f S=>mv S rfl fun f S=>?_));obtain ⟨_,c2,c3,c4,rfl,ay,bj⟩:=Z6b g (Zo av).2.1;obtain ⟨rfl,bk⟩:=bj;refine ov S rfl (Zia S rfl rfl Z7 (Zo av).1 (ltI (Z0a g) (Zo av).2.2.1)) fun f S=>ov S rfl (Z9a S rfl Zhb (S.view ay)) fun f S=>?_;have m:=Zta aj m;refine opc S rfl (Zja S [.slice R T U,.int .u64 au] Zlr rfl rfl) (Zxq S.vin m (show Rep.rel (Zd .u64) _ [.int .u64 au] au from (Z1 bk)) bi) ?_;rintro _ c5 f w bm ⟨c6,c7,rfl,ak,bn⟩ S;have ay:=Atm bm ay;obtain ⟨aT,aU,aV,rfl⟩:=ZBa ak;obtain ⟨rfl,bo⟩:=bn;refine mv S rfl fun f S=>ov S rfl (Zra S rfl rfl) fun f S=>ov S rfl (Zra S rfl rfl) fun f S=>mw S rfl fun f S=>mw S rfl fun f S=>ZJ (Zp (bh _ _ (Zy fun _ bp=>bO H fun c8 bq H=>ZP (mv S rfl fun f S=>mv S rfl fun f S=>opc S rfl (Zja S [.int .u64 (ax.2)] k_en128 rfl rfl) (word_c S.vin (show Rep.rel (Zd .u64) _ [.int .u64 (ax.2)] ax.2 from (Z1 bo)) bq) ?_))));rintro _ c9 f w br ⟨da,rfl,aW⟩ S;obtain ⟨aX,aY,aZ,rfl⟩:=ZBa aW;refine mw S rfl fun f S=>mw S rfl fun f S=>ZJ ?_;have S:=S.fr' (σ':=[(4,.slice aT aU aV),(5,.slice aX aY aZ)]) rfl;refine Zp (bp _ _ (wp_ret (ZGp (ZVi ?_))))
  obtain rfl:=ZG H;have ak:=Zta br ak;refine ZDf S (Z4j rfl (ZOa S rfl) (ZOa S rfl)) ⟨[.slice aT aU aV],[.slice aX aY aZ],rfl,ak,aW⟩
 have H:=Zob H W;refine Zza S rfl W (wp_skip (Zxd (Zp (bc _ _ (Zy fun _ bs=>bO H fun db bt H=>bO H fun az aA H=>bO H fun k bu H=>ZP (mv S rfl fun f S=>mv S rfl fun f S=>ov S rfl (Z1b S (Z0a g) rfl rfl Z7) fun f S=>ov S rfl (ZA S rfl rfl (ZIb bt)) fun f S=>?_))))));obtain ⟨_,bv,bw,dc,rfl,aB,bx⟩:=Z6b g (Zo aA).2.1;obtain ⟨rfl,bz⟩:=bx;refine ov S rfl (Zia S rfl rfl Z7 (Zo aA).1 (ltI (Z0a g) (Zo aA).2.2.1)) fun f S=>ov S rfl (Z9a S rfl Zhb (S.view aB)) fun f S=>opc S rfl (Zja S [.int .u64 az] k_en163 rfl rfl) (lz64_c S.vin (show Rep.rel (Zd .u64) _ [.int .u64 az] az from (Z1 bz)) bu) ?_;rintro _ dd f w aC ⟨de,rfl,bA⟩ S;have aB:=Atm aC aB;obtain ⟨rfl,aD⟩:=bA;refine mw S rfl fun f S=>ZJ (Zp (bs _ _ (Zy fun _ bB=>bO H fun bC bD H=>ZP (mv S rfl fun f S=>mv S rfl fun f S=>?_))));have g:=Zta aC g;refine opc S rfl (Zja S [.slice (some ⟨bv,bw,none⟩) n5 k6,.int .i64 k] ZAo rfl rfl) (ZBq S.vin g (show Rep.rel (Zd .i64) _ [.int .i64 k] k from (Z1 aD)) bD) ?_;rintro _ bE f w bG ⟨df,rfl,v⟩ S;obtain ⟨aE,aF,aG,rfl⟩:=ZBa v;refine mw S rfl fun f S=>ZJ (Zp (bB _ _ (Zy fun _ bH=>bO H fun X bI H=>bO H fun dg bJ H=>bO H fun dh bK H=>ZP ?_)))
 obtain ⟨di,w,bM,S⟩:=Ztg (P:=Tryz.prog) (t:=55) (e:=153) S (n:=0) (cs:=[]) (vals:=[]) (sz:=1) rfl (by decide) (fun _=>by kernel_rfl);have aH:Rep.rels (Zd .u64) bE [] []:=ZDd;refine Zyc wn rfl zl (bM rfl) S fun f S=>mv S rfl fun f S=>mv S rfl fun f S=>?_;have m:=Zta (leT (leT aj aC) bG) m;refine opc S rfl (Zja S [.slice R T U,.int .i64 k] ZAo rfl rfl) (ZBq S.vin m (show Rep.rel (Zd .i64) _ [.int .i64 k] k from (Z1 aD)) bI) ?_;rintro _ al f w a0 ⟨dj,rfl,aI⟩ S;have aH:=ZK a0 aH;obtain ⟨dk,dl,dm,rfl⟩:=ZBa aI;have aJ:=S;obtain ⟨dn,dp,a1,w,bP,S,bQ⟩:=Z0f (ty:=55) (A:=(Zd .u64)) Zji S (i:=0) (n':=(([]:(List Int))++((Zc 18446744073709551616 X))).length) rfl aI (appN rfl (Z0a aI)) (ZQd bJ) (by decide);have bR:=ZKb aH bQ;refine Zyc wn rfl zl (Zhe aJ rfl rfl bP) S fun f S=>?_;obtain ⟨dq,w,bS,S⟩:=Ztg S (n:=1) (cs:=[.int .u64 0]) (vals:=[(0,.int .u64 0)]) (sz:=1) rfl (by decide) (ZZs Zji (x:=.int .u64 0) (cs:=[.int .u64 0]) rfl rfl (by decide));have aK:Rep.rels (Zd .u64) al [.int .u64 0] [(0:Int)]:=(Zkq (Z1 (by decide)) ZDd);refine Zyc wn rfl zl (bS rfl) S fun f S=>?_;have aJ:=S;obtain ⟨aL,aM,w,bT,S⟩:=Zzj (ty:=55) Zji S (i:=1) (n':=((([]:(List Int))++((Zc 18446744073709551616 X)))++[(0:Int)]).length) rfl (ZVd aK rfl) (Zih S (j:=0) rfl) (ZWg aK) (appN rfl rfl) (ZQd bK) (by decide)
 have bU:=ZKb bR aK;refine Zyc wn rfl zl (Zhe aJ rfl rfl bT) S fun f S=>mw S rfl fun f S=>ZJ ?_;have S:=S.fr' (σ':=[(8,.int .i64 k),(9,.slice aE aF aG),(10,.slice (mkA aL) (((([]:(List Int))++((Zc 18446744073709551616 X)))++[(0:Int)]).length) aM)]) rfl;refine Zp (bH _ _ (sr (mv S rfl fun f S=>?_)));have v:=Zta a0 v;refine ov S rfl (Z1b S (Z0a v) rfl rfl Z7) fun f S=>mw S rfl fun f S=>oe (Zy fun _ bV=>bO H fun q bW H=>bO H fun dr am H=>ZP (mv S rfl fun f S=>ov S rfl (Z1b S rfl rfl rfl Z7) fun f S=>mv S rfl fun f S=>ov S rfl (ZA S rfl rfl (ZIb bW)) fun f S=>?_));obtain ⟨aN,a2⟩:∃ c:List Value,c=(List.replicate (q).toNat [.int .u64 0]).flatten:=⟨_,rfl⟩;obtain ⟨a3,w,bX,S⟩:=Zqp Zji S (l:=q) (c:=q) (Zbd am).1 (Zbd am).2.1 (Zbd am).2.2.1 (Zbd am).2.2.2 a2;have bY:Rep.rels (Zd .u64) al aN (List.replicate (q).toNat (0:Int)):=by rw [a2];exact ZJg (show Rep.rel (Zd .u64) _ [.int .u64 0] _ from (Z1 (by decide))) _
 refine Zyc wn rfl zl (bX rfl rfl) S fun f S=>mw S rfl fun f S=>ZJ (Zp (bV _ _ (Zy fun _ bZ=>Zy fun _ b0=>bO H fun ds a4 H=>ZP (mv S rfl fun f S=>ov S rfl (Z1b S (repN (x:=(0:Int))) rfl rfl Z7) fun f S=>ov S rfl (ZA S rfl rfl (ZIb a4)) fun f S=>mw S rfl fun f S=>ZJ (Zp (b0 _ _ ?_))))));obtain ⟨b1,b2,b3⟩:=Zda H;refine ZHc (fun f w=>∃ G I J B L an Y M Z aO aa,(G,I)=b1∧Zb.le al aa∧St 84 w0 F [(8,.int .i64 k),(10,.slice (mkA J) B L),(12,.slice (mkA Y) M Z)] [Loc.own J 153 1 B L an,Loc.own Y 153 1 M Z aO] aa f w∧Rep.rels (Zd .u64) aa an G∧B=G.length∧Rep.rels (Zd .u64) aa aO I∧M=I.length) (fun _ b4=>?_) ?_
 ·have H:=b2;refine wp_block ?_;obtain ⟨dt,b5,b6⟩:=Zda H;have S:=S.reorder (ℓ':=[Loc.own aL 153 1 (((([]:(List Int))++((Zc 18446744073709551616 X)))++[(0:Int)]).length) aM ((([]++a1)++[.int .u64 0])),Loc.own (some a3) 153 1 ((q).toNat) (q).toNat aN]) [2,0] rfl (by decide);refine Zme b5 (fun b7 f w=>∃ ao N d ap C D s aq E ab o ac,(ao,N,d)=b7∧Zb.le al ac∧St 84 w0 F [(8,.int .i64 k),(9,.slice aE aF aG),(10,.slice (mkA ap) C D),(11,.int .i64 ((((Zc 18446744073709551616 bC)).length:Int))),(12,.slice (mkA aq) E ab),(13,.int .i64 d)] [Loc.own ap 153 1 C D s,Loc.own aq 153 1 E ab o] ac f w∧Rep.rels (Zd .u64) ac s ao∧C=ao.length∧Rep.rels (Zd .u64) ac o N∧E=N.length∧inR .i64 d) ⟨_,_,_,aL,((([]:(List Int))++((Zc 18446744073709551616 X)))++[(0:Int)]).length,aM,(([]++a1)++[.int .u64 0]),some a3,(q).toNat,(q).toNat,aN,_,rfl,(leR _),(S.fr' rfl),bU,rfl,bY,(repN (x:=(0:Int))),(Zvb a4).2⟩ ?_;rintro _ f w st ⟨ao,N,d,ap,C,D,s,aq,E,ab,o,ac,hq,aP,S,ad,ae,af,ag,du⟩ H dv b8 b9
  subst hq;refine Zy fun _ ca=>sr (mv S rfl fun f S=>ov S rfl (ZA S rfl rfl Zkn) fun f S=>oe ?_);rcases Zgb (decide ((0:Int)≤d)) with ah | ah
  ·have H:=Zqb H ah;refine Zlb S rfl ah (wp_skip (Zp (ca _ _ (Zy fun _ cb=>wp_block (bO H fun dw cc H=>bO H fun O ce H=>bO H fun dx h H=>bO H fun u cg H=>bO H fun dy Q H=>ZP (mv S rfl fun f S=>mv S rfl fun f S=>mv S rfl fun f S=>?_))))));refine mv S rfl fun f S=>mv S rfl fun f S=>mv S rfl fun f S=>ov S rfl (ZA S rfl rfl (ZZf cc)) fun f S=>ov S rfl (ZA S rfl rfl (ZZf ce)) fun f S=>?_;obtain ⟨aQ,rfl⟩:=Z2c S (j:=0) rfl (by have:=Zic h;have:=ae;omega);refine ov S rfl (Zov S (j:=0) rfl Z7 (Zic h).1 (Zic h).2.1 (by have:=(Zic h).2.2.1;have:=ae;omega) rfl rfl rfl) fun f S=>mv S rfl fun f S=>?_;obtain ⟨pre399,post400,ch,ci,cj,ck,cl,cm⟩:=Zav S (i:=0) (lo:=(d).toNat) (hi:=(O).toNat) rfl (Zic h).2.2.2.2.2.1 (by have:=(Zic h).2.2.2.2.2.2;have:=ae;omega);have v:=Zta aP v;refine Zkr S wn rfl zl (Zja S [.slice (some ⟨aQ,(d).toNat*1,none⟩) ((O-d).toNat) (D-(d).toNat),.slice aE aF aG] k_en165 rfl rfl) (i:=0) rfl rfl (digit_c S.vin ch cj ci (Zic h).2.2.2.2.1 ⟨ZLx (Zic h).1 (Zic h).2.1 ck,cl⟩ (Zoy ad rfl (Zic h).2.2.2.1) v cg) ?_;rintro _ a5 f w aR ⟨⟨dz,rfl,cn⟩,co,aS,cp,cq,a6⟩ hSf;have ad:=ZK aR ad
   have af:=ZK aR af;have a7:((O).toNat-(d).toNat)=u.2.length:=by have:=cq;have:=Zic h;omega
   have S:=hSf (Loc.own (some aQ) 153 1 C D (List.take ((d).toNat*1) s++aS++List.drop ((O).toNat*1) s)) rfl (cm _ aS (ZVd a6 a7) cp) co;have cr:=ZLv (p:=(d).toNat) (r:=(O).toNat) (sz:=1) ad a6 rfl;have ct:=Z6v ae (Zic h).2.2.2.2.2.1 (Zic h).2.2.2.2.2.2 a7;obtain ⟨rfl,cu⟩:=cn;obtain ⟨cv,rfl⟩:=Z2c S (j:=1) rfl (posN ag (Zo Q).2.2.2);have a8:=Zwa af (Zo Q).2.1;obtain ⟨dA,cw⟩:∃ c,(List.take (Zd .u64).n (List.drop ((d).toNat*(Zd .u64).n) o))=c:=⟨_,rfl⟩;rw [cw] at a8;obtain ⟨rfl,dB⟩:=a8;refine ov S rfl (Zia S rfl rfl Z7 (Zo Q).1 (ltI ag (Zo Q).2.2.1)) fun f S=>?_;obtain ⟨w,cx,S⟩:=Zvd S Zhb (off:=0+(d).toNat*1) (z:=.int .u64 (u.1)) (cs:=[.int .u64 (u.1)]) (ZZc rfl) rfl (i:=1) rfl (Zli S (j:=1) rfl (ltN ag (Zo Q).2.2.2)) (by first | rfl | simp [plain]);have cy:Rep.rels (Zd .u64) a5 (List.take (0+(d).toNat*1) o++[Value.int IntKind.u64 (u.1)]++List.drop (0+(d).toNat*1+1) o) (N.set (d).toNat u.1):=Z8g af (Zo Q).2.2.2 (show Rep.rel (Zd .u64) a5 [.int .u64 (u.1)] _ from (Z1 cu)) rfl rfl;have cz:E=(N.set (d).toNat u.1).length:=setN ag;refine Z9i wn rfl (cx rfl rfl) (ZJ (Zxd (Zp (cb _ _ (bO H fun dC a9 H=>ZP (mv S rfl fun f S=>ov S rfl (ZA S rfl rfl (ZIb a9)) fun f S=>mw S rfl fun f S=>ZJ ?_))))))
   obtain rfl:=ZG H;refine b8 _ rfl _ _ ⟨_,_,_,some aQ,C,D,(List.take ((d).toNat*1) s++aS++List.drop ((O).toNat*1) s),some cv,E,ab,(List.take (0+(d).toNat*1) o++[Value.int IntKind.u64 (u.1)]++List.drop (0+(d).toNat*1+1) o),_,rfl,(leT aP aR),(S.fr' rfl),cr,ct,cy,cz,(Zvb a9).2⟩
  have H:=Zob H ah;refine Zza S rfl ah (wp_exit (Z1a ?_));obtain rfl:=ZG H;have hq:=b9 _ rfl;subst hq;have H:=b6;refine Z1a (Zod ?_);obtain rfl:=ZG H;refine Zp (b4 _ _ ⟨_,_,ap,C,D,s,aq,E,ab,o,_,rfl,(leT (leR _) aP),(S.fr' rfl),ad,ae,af,ag⟩)
 rintro f w ⟨G,I,J,B,L,an,Y,M,Z,aO,aa,hq,dD,S,ai,cA,cB,cC⟩;subst hq;have H:=b3;refine Zp (bZ _ _ (Zy fun _ cD=>bO H fun dE cE H=>bO H fun dF cF H=>bO H fun dG cG H=>ZP (mv S rfl fun f S=>?_)));obtain ⟨dH,cH,S,cI⟩:=S.pubSlice (i:=1) (A:=(Zd .u64)) (l:=I) (ℓ':=[Loc.own J 153 1 B L an]) rfl rfl cC cB rfl;have ai:=ZK cH ai;refine opc S rfl (Zja S [.slice (mkA Y) M Z] Zdj rfl rfl) (Z2k S.vin (show Rep.rel (Zm (Zd .u64)) _ [.slice (mkA Y) M Z] I from cI) cE) ?_;rintro _ dI f w cJ ⟨dJ,rfl,ar⟩ S;have ai:=ZK cJ ai;obtain ⟨cK,cL,cM,rfl⟩:=ZBa ar;refine mv S rfl fun f S=>?_;obtain ⟨dK,cN,S,cO⟩:=S.pubSlice (i:=0) (A:=(Zd .u64)) (l:=G) (ℓ':=[]) rfl rfl cA ai rfl;refine opc S rfl (Zja S [.slice (mkA J) B L] Zdj rfl rfl) (Z2k S.vin (show Rep.rel (Zm (Zd .u64)) _ [.slice (mkA J) B L] G from cO) cF) ?_;rintro _ dL f w cP ⟨dM,rfl,ba⟩ S;obtain ⟨cQ,cR,cS,rfl⟩:=ZBa ba;refine mv S rfl fun f S=>opc S rfl (Zja S [.slice cQ cR cS,.int .i64 k] k_en166 rfl rfl) (right_c S.vin ba (show Rep.rel (Zd .i64) _ [.int .i64 k] k from (Z1 aD)) cG) ?_;rintro _ dN f w cT ⟨dO,rfl,bb⟩ S;obtain ⟨cU,cV,cW,rfl⟩:=ZBa bb
 refine mw S rfl fun f S=>mw S rfl fun f S=>ZJ (Zp (cD _ _ (wp_ret ?_)));obtain rfl:=ZG H;have ar:=Zta (leT (leT cN cP) cT) ar;refine ZDf S (Z4j rfl (ZOa S rfl) (ZOa S rfl)) ⟨[.slice cK cL cM],[.slice cU cV cW],rfl,ar,bb⟩
theorem ZOx {d:World} {c:Zb} (hv:VIn c d) {e:List Value} {a:Nat} (i:Rep.rel Zs c e a) {f:List Value} {b:Nat} (j:Rep.rel Zs c f b) {z:Nat×Nat} (hm:ZFd a b=some z) :
  Ret Tryz.prog 131 #[Zs.val e,Zs.val f] d c (fun y v'=>∃ g h,y=Value.tuple #[Zs.val g,Zs.val h]∧Zs.rel v' g z.1∧Zs.rel v' h z.2) :=
 ZEu hv i j (Zcz hm)
end Go.Eng
set_option maxRecDepth 100000
set_option maxHeartbeats 4000000
namespace Go.Eng
open Go.Proofs Go.RowKit
noncomputable def Zyk:FuncId×Con:=(131,⟨[.leaf 0,.leaf 0],[.leaf 0,.leaf 0],fun p=>ZFd p.1 p.2⟩)
theorem Z2s:ZNd Tryz.prog Zyk.1 Zyk.2:=fun w v vals x z hv ha hz=>by
 obtain ⟨c0,w0,e0,p0,c1,e1,p1⟩:=ha;subst e0;subst e1
 exact .inl ⟨fun _ _=>by kernel_rfl,Ret.mono (ZOx hv p0 p1 hz) fun y v' _ ⟨r0,r1,e,h0,h1⟩=>⟨_,e,r0,_,rfl,h0,r1,rfl,h1⟩⟩
end Go.Eng
set_option maxRecDepth 100000
set_option maxHeartbeats 4000000
namespace Go.Eng
open Go.Proofs Go.RowKit
noncomputable def ZOt:FuncId×Con:=(161,⟨[.leaf 0,.leaf 0],[.int .u64],fun p=>ZTg p.1 p.2⟩)
theorem small_k:KQ ZOt:=Zh (Zx (C:=cf2 [(55,0)] []) (.n (.n (.two (.n (.j [1] [] [.s 5 (.dat (.int .u64))] .no)) (.n (.f (.j [] [] [.s 5 (.dat (.int .u64))] (.f (.l [] [] [.s 5 (.dat (.int .u64)),.s 6 (.dat (.int .u64))] 0 [] [] [.s 5 (.dat (.int .u64))] .no)))))))) Tryz.func161 [] (fun v vals x z ha hz=>.trans (by kernel_rfl) (ZXu hz)))
end Go.Eng
set_option maxRecDepth 100000
set_option maxHeartbeats 4000000
namespace Go.Eng
open Go.Proofs Go.RowKit
noncomputable def gcd_q:FuncId×Con:=(129,⟨[.leaf 0,.leaf 0],[.leaf 0],fun p=>gcdF p.1 p.2⟩)
theorem gcd_k:KQ gcd_q:=Zh (Zx (C:=cf2 [(55,0)] [Z8h,Zyk,ZOt]) (.n (.f (.cut ⟨⟨[],[],[]⟩,[(.norm,⟨[],[],[.s 0 (.dat (.leaf 0))]⟩),(.ret,⟨[],[],[.s 1000 (.dat (.leaf 0))]⟩)]⟩ (.f (.cut ⟨⟨[],[],[.s 0 (.dat (.leaf 0)),.s 1 (.dat (.leaf 0))]⟩,[(.ret,⟨[],[],[.s 1000 (.dat (.leaf 0))]⟩),(.exit 0,⟨[],[],[.s 0 (.dat (.leaf 0))]⟩)]⟩ (.f (.n (.f (.f (.f (.j [0,1] [] [.s 17 (.dat .bool)] .no))))))))))) Tryz.func129 [] (fun v vals x z ha hz=>.trans (by kernel_rfl) (gcdF_eq hz)) ⟨Z0m,Z2s,small_k,tr⟩)
end Go.Eng
set_option maxRecDepth 100000
set_option maxHeartbeats 4000000
namespace Go.Eng
open Go.Proofs Go.RowKit
noncomputable def Zdo:FuncId×Con:=(130,⟨[.leaf 0],[.bool],fun p=>Zvf p⟩)
theorem Z2q:KQ Zdo:=Zh (Z0j (C:=cf2 [] []) (.n (.f (.j [] [] [.s 2 (.dat .bool)] .no))) Tryz.func130 [] [.slice (.int .u64)] [.bool] (fun x=>((Zc 18446744073709551616 x))) (fun z=>z) (fun v vals x z ha hz=>.trans (by kernel_rfl) (Zny.trans hz)))
end Go.Eng
set_option maxRecDepth 100000
set_option maxHeartbeats 4000000
namespace Go.Eng
open Go.Proofs Go.RowKit
noncomputable def ZNh:FuncId×Con:=(95,⟨[.leaf 2,.leaf 0],[.leaf 3],fun p=>ZXc p.1 p.2⟩)
theorem Znj:KQ ZNh:=Zh (Zx (C:=cf0 [gcd_q,Zdo,Zyk] [] [] []) (.n (.two (.n (.n (.j [2,4] [] [.s 1 (.dat (.leaf 0)),.l (.sl 2) (.box 57 (.dat (.pair .bool (.leaf 0))))] .no))) (.f (.n (.j [2,4] [] [.s 1 (.dat (.leaf 0))] .no))))) Tryz.func95 [] (fun v vals x z ha hz=>.trans (by kernel_rfl) (ZVt hz)) ⟨gcd_k,Z2q,Z2s,tr⟩)
end Go.Eng
set_option maxRecDepth 100000
set_option maxHeartbeats 4000000
namespace Go.Eng
open Go.Proofs Go.RowKit
noncomputable def Zpf:FuncId×Con:=(96,⟨[.bool,.leaf 0],[.leaf 2],fun p=>Z7a p.1 p.2⟩)
theorem Zdh:KQ Zpf:=Zh (Zx (C:=cf0 [] [] [] []) (.n (.f (.j [4] [] [.l (.sl 4) (.box 57 (.dat (.pair .bool (.leaf 0))))] .no))) Tryz.func96 [] (fun v vals x z ha hz=>.trans (by kernel_rfl) (Z6w hz)))
end Go.Eng
set_option maxRecDepth 100000
set_option maxHeartbeats 4000000
namespace Go.Eng
open Go.Proofs Go.RowKit
noncomputable def Zet:FuncId×Con:=(55,⟨[.int .i64,.int .i64],[.leaf 3,.int .i64],fun p=>ZWh p.1 p.2⟩)
theorem qnew_k:KQ Zet:=Zh (Zx (C:=cf0 [of_q,ZNh,Zpf] [] [] []) .no Tryz.func55 [] (fun v vals x z ha hz=>by obtain ⟨c0,w0,e0,p0,c1,e1,p1⟩:=ha;exact .trans (by kernel_rfl) (Z8x p0.2 p1.2 hz)) ⟨of_k,Znj,Zdh,tr⟩)
end Go.Eng
set_option maxRecDepth 100000
set_option maxHeartbeats 4000000
namespace Go.Eng
open Go.Proofs Go.RowKit
noncomputable def ZKl:FuncId×Con:=(15,⟨[.pair (.int .i64) (.int .i64)],[.leaf 3],fun p=>ZTf p⟩)
theorem Zxs:KQ ZKl:=Zh (Zx (C:=cf0 [ZIm,Zet] [] [] []) .no Tryz.func15 [] (fun v vals x z ha hz=>.trans (by kernel_rfl) (ZWt hz)) ⟨Zls,qnew_k,tr⟩)
end Go.Eng
set_option maxRecDepth 100000
set_option maxHeartbeats 4000000
namespace Go.Eng
open Go.Proofs Go.RowKit
noncomputable def Z8f:FuncId×Con:=(11,⟨[.leaf 4],[.pair (.leaf 4) (.pair (.leaf 4) (.pair (.leaf 4) (.leaf 4)))],fun p=>ZWc p⟩)
theorem Z2g:KQ Z8f:=Zh (Zt (C:=cf0 [Zte] [] [] []) .no Tryz.func11 [] (fun _=>by kernel_rfl) ⟨Zyf,tr⟩)
end Go.Eng
set_option maxRecDepth 100000
set_option maxHeartbeats 4000000
namespace Go.Eng
open Go.Proofs Go.RowKit
noncomputable def ZAn:FuncId×Con:=(43,⟨[.leaf 4],[.pair (.pair (.leaf 4) (.pair (.leaf 4) (.pair (.leaf 4) (.leaf 4)))) (.pair (.leaf 4) (.pair (.leaf 4) (.pair (.leaf 4) (.leaf 4))))],fun p=>Zdi p⟩)
theorem Zqr:KQ ZAn:=Zh (Zt (C:=cf0 [Z8f,Zte] [] [] []) .no Tryz.func43 [] (fun _=>by kernel_rfl) ⟨Z2g,Zyf,tr⟩)
end Go.Eng
set_option maxRecDepth 100000
set_option maxHeartbeats 4000000
namespace Go.Eng
open Go.Proofs Go.RowKit
noncomputable def Z7i:FuncId×Con:=(10,⟨[.slice (.pair (.int .i64) (.int .i64))],[.slice (.leaf 3),.slice (.pair (.pair (.leaf 4) (.pair (.leaf 4) (.pair (.leaf 4) (.leaf 4)))) (.pair (.leaf 4) (.pair (.leaf 4) (.pair (.leaf 4) (.leaf 4)))))],fun p=>Z0c p⟩)
theorem Zsn:KQ Z7i:=Zh (Zt (C:=cf0 [Z1j,ZKl,ZAn] [] [] []) (.n (.n (.n (.f (.n (.f (.l [8,9] [] [.s 4 (.own 59 (.leaf 3)),.s 5 (.own 108 (.pair (.pair (.leaf 4) (.pair (.leaf 4) (.pair (.leaf 4) (.leaf 4)))) (.pair (.leaf 4) (.pair (.leaf 4) (.pair (.leaf 4) (.leaf 4)))))),.s 10 (.dat (.int .i64))] 0 [] [] [.s 4 (.own 59 (.leaf 3)),.s 5 (.own 108 (.pair (.pair (.leaf 4) (.pair (.leaf 4) (.pair (.leaf 4) (.leaf 4)))) (.pair (.leaf 4) (.pair (.leaf 4) (.pair (.leaf 4) (.leaf 4))))))] .no))))))) Tryz.func10 [] (fun _=>by kernel_rfl) ⟨rof_k,Zxs,Zqr,tr⟩)
end Go.Eng
set_option maxRecDepth 100000
set_option maxHeartbeats 4000000
namespace Go.Eng
open Go.Proofs Go.RowKit
noncomputable def ZKj:FuncId×Con:=(13,⟨[.slice (.pair (.int .i64) (.int .i64))],[.slice (.pair (.leaf 4) (.pair (.leaf 4) (.pair (.leaf 4) (.leaf 4))))],fun p=>ZSb p⟩)
theorem Zho:KQ ZKj:=Zh (Zt (C:=cf0 [Z8f,Z1j] [] [] []) (.n (.n (.f (.n (.f (.l [6,7] [] [.s 3 (.own 47 (.pair (.leaf 4) (.pair (.leaf 4) (.pair (.leaf 4) (.leaf 4))))),.s 8 (.dat (.int .i64))] 0 [] [] [.s 3 (.own 47 (.pair (.leaf 4) (.pair (.leaf 4) (.pair (.leaf 4) (.leaf 4)))))] .no)))))) Tryz.func13 [] (fun _=>by kernel_rfl) ⟨Z2g,rof_k,tr⟩)
end Go.Eng
set_option maxRecDepth 100000
set_option maxHeartbeats 4000000
namespace Go.Eng
open Go.Proofs Go.RowKit
noncomputable def ZSj:FuncId×Con:=(26,⟨[.slice (.slice (.pair (.int .i64) (.int .i64)))],[.slice (.slice (.leaf 3)),.slice (.slice (.pair (.pair (.leaf 4) (.pair (.leaf 4) (.pair (.leaf 4) (.leaf 4)))) (.pair (.leaf 4) (.pair (.leaf 4) (.pair (.leaf 4) (.leaf 4))))))],fun p=>ZBe p⟩)
theorem Zun:KQ ZSj:=Zh (Zt (C:=cf0 [Z7i] [] [] []) (.n (.n (.f (.n (.f (.l [0,4,5,14] [] [.s 15 (.dat (.int .i64)),.l (.sl 4) (.own 31 (.slice (.leaf 3))),.l (.sl 5) (.own 40 (.slice (.pair (.pair (.leaf 4) (.pair (.leaf 4) (.pair (.leaf 4) (.leaf 4)))) (.pair (.leaf 4) (.pair (.leaf 4) (.pair (.leaf 4) (.leaf 4)))))))] 0 [4,5] [] [.l (.sl 4) (.own 31 (.slice (.leaf 3))),.l (.sl 5) (.own 40 (.slice (.pair (.pair (.leaf 4) (.pair (.leaf 4) (.pair (.leaf 4) (.leaf 4)))) (.pair (.leaf 4) (.pair (.leaf 4) (.pair (.leaf 4) (.leaf 4)))))))] .no)))))) Tryz.func26 [] (fun _=>by kernel_rfl) ⟨Zsn,tr⟩)
end Go.Eng
set_option maxRecDepth 100000
set_option maxHeartbeats 4000000
namespace Go.Eng
open Go.Proofs Go.RowKit
noncomputable def Zul:FuncId×Con:=(27,⟨[.slice (.slice (.pair (.int .i64) (.int .i64)))],[.slice (.slice (.pair (.leaf 4) (.pair (.leaf 4) (.pair (.leaf 4) (.leaf 4)))))],fun p=>Z5h p⟩)
theorem ZIt:KQ Zul:=Zh (Zt (C:=cf0 [ZKj] [] [] []) (.n (.n (.f (.n (.f (.l [0,3,9] [] [.s 10 (.dat (.int .i64)),.l (.sl 3) (.own 35 (.slice (.pair (.leaf 4) (.pair (.leaf 4) (.pair (.leaf 4) (.leaf 4))))))] 0 [3] [] [.l (.sl 3) (.own 35 (.slice (.pair (.leaf 4) (.pair (.leaf 4) (.pair (.leaf 4) (.leaf 4))))))] .no)))))) Tryz.func27 [] (fun _=>by kernel_rfl) ⟨Zho,tr⟩)
end Go.Eng
set_option maxRecDepth 100000
set_option maxHeartbeats 4000000
namespace Go.Eng
open Go.Proofs Go.RowKit
noncomputable def ZEo:FuncId×Con:=(9,⟨[.slice (.slice (.pair (.int .i64) (.int .i64))),.slice (.pair (.int .i64) (.int .i64)),.slice (.pair (.int .i64) (.int .i64))],[.pair (.slice (.slice (.leaf 3))) (.pair (.slice (.leaf 3)) (.slice (.leaf 3))),.pair (.slice (.slice (.pair (.leaf 4) (.pair (.leaf 4) (.pair (.leaf 4) (.leaf 4)))))) (.pair (.slice (.pair (.leaf 4) (.pair (.leaf 4) (.pair (.leaf 4) (.leaf 4))))) (.slice (.pair (.leaf 4) (.pair (.leaf 4) (.pair (.leaf 4) (.leaf 4))))))],fun p=>Zep p.1 p.2.1 p.2.2⟩)
theorem Z8t:KQ ZEo:=Zh (Zt (C:=cf0 [Z7i,ZKj,ZSj,Zul] [] [] []) .no Tryz.func9 [] (fun _=>by kernel_rfl) ⟨Zsn,Zho,Zun,ZIt,tr⟩)
end Go.Eng
set_option maxRecDepth 100000
set_option maxHeartbeats 4000000
namespace Go.Eng
open Go.Proofs Go.RowKit
noncomputable def Zng:FuncId×Con:=(25,⟨[.leaf 3],[.bool],fun p=>ZKc p⟩)
theorem ZTi:KQ Zng:=Zh (Zx (C:=cf0 [] [] [] []) .no Tryz.func25 [] (fun v vals x z ha hz=>.trans (by kernel_rfl) (ZWx hz)))
end Go.Eng
set_option maxRecDepth 100000
set_option maxHeartbeats 4000000
namespace Go.Eng
open Go.Proofs Go.RowKit
noncomputable def Zfm:FuncId×Con:=(33,⟨[.pair (.slice (.slice (.leaf 3))) (.pair (.slice (.leaf 3)) (.slice (.leaf 3)))],[.int .i64],fun p=>Zbn p⟩)
theorem Zqs:KQ Zfm:=Zh (Zt (C:=cf0 [] [] [] []) (.n (.f (.f (.j [] [] [.s 27 (.dat .bool)] .no)))) Tryz.func33 [(78,Tryz.f78,.no),(79,Tryz.f79,.no),(113,Tryz.f113,.r [] [] [.s 1000 (.dat (.int .i64))] (.n (.f (.n (.f (.cut ⟨⟨[0,1,7],[],[.s 8 (.dat (.int .i64))]⟩,[(.exit 0,⟨[],[],[]⟩),(.ret,⟨[],[],[.s 1000 (.dat (.int .i64))]⟩)]⟩ .no))))))] (fun _=>by kernel_rfl) tr tr tr ⟨⟨Tryz.func78,fun _ _=>by kernel_rfl⟩,⟨Tryz.func79,fun _ _=>by kernel_rfl⟩,⟨Tryz.func113,fun _ _=>by kernel_rfl⟩,tr⟩)
end Go.Eng
set_option maxRecDepth 100000
set_option maxHeartbeats 4000000
namespace Go.Eng
open Go.Proofs Go.RowKit
noncomputable def ZGs:FuncId×Con:=(202,⟨[.leaf 2],[.int .i64],fun p=>Zoi p⟩)
theorem isign_k:KQ ZGs:=Zh (Zx (C:=cf0 [] [] [] []) .no Tryz.func202 [] (fun v vals x z ha hz=>.trans (by kernel_rfl) (ZAv hz)))
end Go.Eng
set_option maxRecDepth 100000
set_option maxHeartbeats 4000000
namespace Go.Eng
open Go.Proofs Go.RowKit
noncomputable def ZBd:FuncId×Con:=(211,⟨[.leaf 3],[.int .i64],fun p=>ZJa p⟩)
theorem ZMd:KQ ZBd:=Zh (Zx (C:=cf0 [ZGs] [] [] []) .no Tryz.func211 [] (fun v vals x z ha hz=>.trans (by kernel_rfl) (Ztw hz)) ⟨isign_k,tr⟩)
end Go.Eng
set_option maxRecDepth 100000
namespace Go.Eng
open Go.Proofs Go.RowKit
theorem Zxi : ∀ y w, (method (Tryz.prog.types.size + Made.depth) 59 y "Add").run Tryz.prog w = .ok (203, y) w := fun _ _ => by kernel_rfl
theorem ZZi : ∀ y w, (method (Tryz.prog.types.size + Made.depth) 59 y "Cmp").run Tryz.prog w = .ok (204, y) w := fun _ _ => by kernel_rfl
theorem Zyn : ∀ y w, (method (Tryz.prog.types.size + Made.depth) 59 y "Div").run Tryz.prog w = .ok (205, y) w := fun _ _ => by kernel_rfl
theorem Zvh : ∀ y w, (method (Tryz.prog.types.size + Made.depth) 59 y "Mul").run Tryz.prog w = .ok (206, y) w := fun _ _ => by kernel_rfl
theorem Zkg : ∀ y w, (method (Tryz.prog.types.size + Made.depth) 59 y "Neg").run Tryz.prog w = .ok (208, y) w := fun _ _ => by kernel_rfl
theorem Zow : ∀ y w, (method (Tryz.prog.types.size + Made.depth) 59 y "Of").run Tryz.prog w = .ok (209, y) w := fun _ _ => by kernel_rfl
theorem Zhr : ∀ y w, (method (Tryz.prog.types.size + Made.depth) 59 y "Same").run Tryz.prog w = .ok (210, y) w := fun _ _ => by kernel_rfl
theorem ZOe : ∀ y w, (method (Tryz.prog.types.size + Made.depth) 59 y "Sign").run Tryz.prog w = .ok (211, y) w := fun _ _ => by kernel_rfl
theorem ZFg : ∀ y w, (method (Tryz.prog.types.size + Made.depth) 59 y "Sub").run Tryz.prog w = .ok (212, y) w := fun _ _ => by kernel_rfl
theorem Ztk : ∀ y w, (method (Tryz.prog.types.size + Made.depth) 59 y "Zero").run Tryz.prog w = .ok (25, y) w := fun _ _ => by kernel_rfl
end Go.Eng
set_option maxRecDepth 100000
set_option maxHeartbeats 4000000
namespace Go.Eng
open Go.Proofs Go.RowKit
noncomputable def ZSg:FuncId×Con:=(49,⟨[.slice (.leaf 3)],[.bool],fun p=>Zxb p⟩)
theorem Zai : KQ ZSg := Zh (Zt (C := cf0 [ZBd] [] [] [((59, "Sign"), 211)]) .no Tryz.func49 [(91, Tryz.f91, .no), (92, Tryz.f92, .no), (126, Tryz.f126, .r [] [] [.s 1000 (.dat (.int .i64))] (.n (.f (.n (.f (.cut ⟨⟨[0, 1, 7], [], [.s 8 (.dat (.int .i64))]⟩, [(.exit 0, ⟨[], [], []⟩), (.ret, ⟨[], [], [.s 1000 (.dat (.int .i64))]⟩)]⟩ .no))))))] (fun _ => by kernel_rfl) ⟨ZMd, tr⟩ tr ⟨ZOe, tr⟩ ⟨⟨Tryz.func91, fun _ _ => by kernel_rfl⟩, ⟨Tryz.func92, fun _ _ => by kernel_rfl⟩, ⟨Tryz.func126, fun _ _ => by kernel_rfl⟩, tr⟩)
end Go.Eng
set_option maxRecDepth 100000
set_option maxHeartbeats 4000000
namespace Go.Eng
open Go.Proofs Go.RowKit
noncomputable def ZDj:FuncId×Con:=(213,⟨[.leaf 0],[.leaf 0],fun p=>Zqc p⟩)
theorem Zpn:KQ ZDj:=Zh (Zx (C:=cf0 [Z8h] [] [] []) .no Tryz.func213 [] (fun v vals x z ha hz=>.trans (by kernel_rfl) (ZGy hz)) ⟨Z0m,tr⟩)
end Go.Eng
set_option maxRecDepth 100000
set_option maxHeartbeats 4000000
namespace Go.Eng
open Go.Proofs Go.RowKit
noncomputable def Z8k:FuncId×Con:=(176,⟨[.int .u64,.int .u64,.int .u64],[.int .u64,.int .u64],fun p=>Zfb p.1 p.2.1 p.2.2⟩)
theorem Z0s:ZNd Tryz.prog Z8k.1 Z8k.2:=fun w v vals x z _ ha hz=>by
 obtain ⟨c0,w0,e0,p0,c1,w1,e1,p1,c2,e2,p2⟩:=ha
 subst e0 e1 e2
 obtain ⟨rfl,h0⟩:=p0
 obtain ⟨rfl,h1⟩:=p1
 obtain ⟨rfl,h2⟩:=p2
 have p0:(Zd .u64).rel v [.int .u64 x.1] x.1:=⟨rfl,h0⟩
 have p1:(Zd .u64).rel v [.int .u64 x.2.1] x.2.1:=⟨rfl,h1⟩
 exact .inr ⟨.tuple #[.int .u64 z.1,.int .u64 z.2],fun w=>ZPm (show Zqe Tryz.prog 176 add64Entry from ⟨_,Tryz.func176,by kernel_rfl,by kernel_rfl,by kernel_rfl,by kernel_rfl⟩) hz w,_,rfl,_,_,rfl,⟨rfl,Z1l hz⟩,_,rfl,⟨rfl,addW_hi p0.2 p1.2 hz⟩⟩
end Go.Eng
set_option maxRecDepth 100000
set_option maxHeartbeats 4000000
namespace Go.Eng
open Go.Proofs Go.RowKit
noncomputable def Z3g:FuncId×Con:=(216,⟨[.leaf 0,.leaf 0],[.leaf 0],fun p=>Zac p.1 p.2⟩)
theorem ZQi:KQ Z3g:=Zh (Zx (C:=cf2 [(55,0)] [Zdo,ZRe,ZYm,Z8k]) (.n (.n (.n (.n (.f (.n (.j [] [] [.s 5 (.own 153 (.int .u64))] (.f (.l [1,26,27] [] [.s 5 (.own 153 (.int .u64)),.s 28 (.dat (.int .i64))] 0 [] [] [.s 5 (.own 153 (.int .u64))] (.f (.n (.n (.f (.f (.n (.n (.f (.n (.j [1,6,26,27,28] [] [.s 5 (.own 153 (.int .u64)),.s 8 (.dat (.int .u64))] (.f (.l [1,6,7,26,27,28,33,34] [] [.s 5 (.own 153 (.int .u64)),.s 8 (.dat (.int .u64)),.s 35 (.dat (.int .i64))] 2 [1,6,26,27,28] [] [.s 5 (.own 153 (.int .u64)),.s 8 (.dat (.int .u64))] .no))))))))))))))))))))) Tryz.func216 [] (fun v vals x z ha hz=>.trans (by kernel_rfl) (ZWu hz)) ⟨Z2q,Zcg,mul64_k,Z0s,tr⟩)
end Go.Eng
set_option maxRecDepth 100000
set_option maxHeartbeats 4000000
namespace Go.Eng
open Go.Proofs Go.RowKit
noncomputable def ZPn:FuncId×Con:=(214,⟨[.leaf 2,.leaf 0],[.leaf 2],fun p=>Z4e p.1 p.2⟩)
theorem Zzq:KQ ZPn:=Zh (Zx (C:=cf0 [Zpf,Z3g] [] [] []) .no Tryz.func214 [] (fun v vals x z ha hz=>.trans (by kernel_rfl) (ZBy hz)) ⟨Zdh,ZQi,tr⟩)
end Go.Eng
set_option maxRecDepth 100000
set_option maxHeartbeats 4000000
namespace Go.Eng
open Go.Proofs Go.RowKit
noncomputable def Zrt:FuncId×Con:=(219,⟨[.leaf 0,.leaf 0],[.leaf 0],fun p=>Zvi p.1 p.2⟩)
theorem plus_k:KQ Zrt:=Zh (Zx (C:=cf2 [(55,0)] [Z8k]) (.n (.two (.n (.j [] [] [.s 0 (.dat (.leaf 0)),.s 1 (.dat (.leaf 0))] .no)) (.n (.n (.two (.n (.j [] [] [.s 5 (.own 153 (.int .u64)),.s 6 (.dat (.int .u64))] (.f (.l [1,23,24] [] [.s 5 (.own 153 (.int .u64)),.s 6 (.dat (.int .u64)),.s 25 (.dat (.int .i64))] 0 [] [] [.s 5 (.own 153 (.int .u64)),.s 6 (.dat (.int .u64))] (.f (.n (.n (.f (.f (.n (.n (.f (.n (.j [1,5,6,7,8,23,24,25] [] [.s 9 (.dat (.int .u64))] .no)))))))))))))) (.f (.n (.j [] [] [.s 5 (.own 153 (.int .u64))] .no)))))))) Tryz.func219 [] (fun v vals x z ha hz=>.trans (by kernel_rfl) (Zpy hz)) ⟨Z0s,tr⟩)
end Go.Eng
set_option maxRecDepth 100000
set_option maxHeartbeats 4000000
namespace Go.Eng
open Go.Proofs Go.RowKit
noncomputable def ZXn:FuncId×Con:=(180,⟨[.int .u64,.int .u64,.int .u64],[.int .u64,.int .u64],fun p=>Z8c p.1 p.2.1 p.2.2⟩)
theorem sub64_k:ZNd Tryz.prog ZXn.1 ZXn.2:=fun w v vals x z _ ha hz=>by
 obtain ⟨c0,w0,e0,p0,c1,w1,e1,p1,c2,e2,p2⟩:=ha
 subst e0 e1 e2
 obtain ⟨rfl,h0⟩:=p0
 obtain ⟨rfl,h1⟩:=p1
 obtain ⟨rfl,h2⟩:=p2
 have p0:(Zd .u64).rel v [.int .u64 x.1] x.1:=⟨rfl,h0⟩
 have p1:(Zd .u64).rel v [.int .u64 x.2.1] x.2.1:=⟨rfl,h1⟩
 exact .inr ⟨.tuple #[.int .u64 z.1,.int .u64 z.2],fun w=>Zcr (show Zqe Tryz.prog 180 Z3k from ⟨_,Tryz.func180,by kernel_rfl,by kernel_rfl,by kernel_rfl,by kernel_rfl⟩) p0.2 p1.2 hz w,_,rfl,_,_,rfl,⟨rfl,Znr hz⟩,_,rfl,⟨rfl,Zht hz⟩⟩
end Go.Eng
set_option maxRecDepth 100000
set_option maxHeartbeats 4000000
namespace Go.Eng
open Go.Proofs Go.RowKit
noncomputable def Zbq:FuncId×Con:=(220,⟨[.leaf 0,.leaf 0],[.leaf 0],fun p=>ZQg p.1 p.2⟩)
theorem minus_k:KQ Zbq:=Zh (Zx (C:=cf2 [(55,0)] [ZRe,ZXn]) (.n (.n (.n (.f (.n (.j [] [] [.s 5 (.own 153 (.int .u64))] (.f (.l [1,13,14] [] [.s 5 (.own 153 (.int .u64)),.s 6 (.dat (.int .u64)),.s 15 (.dat (.int .i64))] 0 [] [] [.s 5 (.own 153 (.int .u64))] (.f (.n (.n (.f (.f (.n (.n (.f (.n (.j [1,5,6,7,8,13,14,15] [] [.s 9 (.dat (.int .u64))] .no)))))))))))))))))) Tryz.func220 [] (fun v vals x z ha hz=>.trans (by kernel_rfl) (ZWy hz)) ⟨Zcg,sub64_k,tr⟩)
end Go.Eng
set_option maxRecDepth 100000
set_option maxHeartbeats 4000000
namespace Go.Eng
open Go.Proofs Go.RowKit
noncomputable def Z1p:FuncId×Con:=(215,⟨[.leaf 2,.leaf 2],[.leaf 2],fun p=>Zpi p.1 p.2⟩)
theorem iplus_k:KQ Z1p:=Zh (Zx (C:=cf0 [Zpf,Zjj,Zrt,Zbq] [] [] []) .no Tryz.func215 [] (fun v vals x z ha hz=>.trans (by kernel_rfl) (Zmx hz)) ⟨Zdh,cmp_k,plus_k,minus_k,tr⟩)
end Go.Eng
set_option maxRecDepth 100000
set_option maxHeartbeats 4000000
namespace Go.Eng
open Go.Proofs Go.RowKit
noncomputable def Ztf:FuncId×Con:=(203,⟨[.leaf 3,.leaf 3],[.leaf 3],fun p=>ZCb p.1 p.2⟩)
theorem Zch:KQ Ztf:=Zh (Zx (C:=cf0 [ZNh,ZDj,ZPn,Z1p,Z3g] [] [] []) .no Tryz.func203 [] (fun v vals x z ha hz=>.trans (by kernel_rfl) (ZMy hz)) ⟨Znj,Zpn,Zzq,iplus_k,ZQi,tr⟩)
end Go.Eng
set_option maxRecDepth 100000
set_option maxHeartbeats 4000000
namespace Go.Eng
open Go.Proofs Go.RowKit
noncomputable def ZVq:FuncId×Con:=(218,⟨[.leaf 2],[.leaf 2],fun p=>ZEi p⟩)
theorem Z5t:KQ ZVq:=Zh (Zx (C:=cf0 [Zpf] [] [] []) .no Tryz.func218 [] (fun v vals x z ha hz=>.trans (by kernel_rfl) (ZXv hz)) ⟨Zdh,tr⟩)
end Go.Eng
set_option maxRecDepth 100000
set_option maxHeartbeats 4000000
namespace Go.Eng
open Go.Proofs Go.RowKit
noncomputable def ZCe:FuncId×Con:=(208,⟨[.leaf 3],[.leaf 3],fun p=>Zpc p⟩)
theorem Zmf:KQ ZCe:=Zh (Zx (C:=cf0 [ZVq] [] [] []) .no Tryz.func208 [] (fun v vals x z ha hz=>.trans (by kernel_rfl) (Zjx hz)) ⟨Z5t,tr⟩)
end Go.Eng
set_option maxRecDepth 100000
set_option maxHeartbeats 4000000
namespace Go.Eng
open Go.Proofs Go.RowKit
noncomputable def ZQe:FuncId×Con:=(212,⟨[.leaf 3,.leaf 3],[.leaf 3],fun p=>Zpb p.1 p.2⟩)
theorem Zjf:KQ ZQe:=Zh (Zx (C:=cf0 [Ztf,ZCe] [] [] []) .no Tryz.func212 [] (fun v vals x z ha hz=>.trans (by kernel_rfl) (Zby hz)) ⟨Zch,Zmf,tr⟩)
end Go.Eng
set_option maxRecDepth 100000
set_option maxHeartbeats 4000000
namespace Go.Eng
open Go.Proofs Go.RowKit
noncomputable def ZAi:FuncId×Con:=(204,⟨[.leaf 3,.leaf 3],[.int .i64],fun p=>ZOd p.1 p.2⟩)
theorem ZCk:KQ ZAi:=Zh (Zx (C:=cf0 [ZBd,ZQe] [] [] []) .no Tryz.func204 [] (fun v vals x z ha hz=>.trans (by kernel_rfl) (ZGu hz)) ⟨ZMd,Zjf,tr⟩)
end Go.Eng
set_option maxRecDepth 100000
set_option maxHeartbeats 4000000
namespace Go.Eng
open Go.Proofs Go.RowKit
noncomputable def Zei:FuncId×Con:=(51,⟨[.slice (.leaf 3),.slice (.leaf 3)],[.bool],fun p=>Zre p.1 p.2⟩)
theorem ZQk : KQ Zei := Zh (Zt (C := cf0 [ZAi] [] [] [((59, "Cmp"), 204)]) (.n (.f (.n (.f (.cut ⟨⟨[0, 1, 7], [], [.s 8 (.dat (.int .i64))]⟩, [(.exit 0, ⟨[], [], []⟩), (.ret, ⟨[], [], [.s 1000 (.dat .bool)]⟩)]⟩ .no))))) Tryz.func51 [] (fun _ => by kernel_rfl) ⟨ZCk, tr⟩ tr ⟨ZZi, tr⟩)
end Go.Eng
set_option maxRecDepth 100000
set_option maxHeartbeats 4000000
namespace Go.Eng
open Go.Proofs Go.RowKit
noncomputable def qOf_q:FuncId×Con:=(209,⟨[.leaf 3,.leaf 3],[.leaf 3],fun p=>qOf_m p.1 p.2⟩)
theorem qOf_k:KQ qOf_q:=Zh (Zt (C:=cf0 [] [] [] []) .no Tryz.func209 [] (fun _=>by kernel_rfl))
end Go.Eng
set_option maxRecDepth 100000
set_option maxHeartbeats 4000000
namespace Go.Eng
open Go.Proofs Go.RowKit
noncomputable def ZAd:FuncId×Con:=(72,⟨[.int .i64],[.leaf 3],fun p=>ZEa p⟩)
theorem ZLd : KQ ZAd := Zh (Zt (C := cf0 [ZIm, qOf_q] [] [] [((59, "Of"), 209)]) .no Tryz.func72 [] (fun _ => by kernel_rfl) ⟨Zls, qOf_k, tr⟩ tr ⟨Zow, tr⟩)
end Go.Eng
set_option maxRecDepth 100000
set_option maxHeartbeats 4000000
namespace Go.Eng
open Go.Proofs Go.RowKit
noncomputable def ZRo:FuncId×Con:=(217,⟨[.leaf 2,.leaf 2],[.leaf 2],fun p=>ZRh p.1 p.2⟩)
theorem Zou:KQ ZRo:=Zh (Zx (C:=cf0 [Zpf,Z3g] [] [] []) .no Tryz.func217 [] (fun v vals x z ha hz=>.trans (by kernel_rfl) (ZIu hz)) ⟨Zdh,ZQi,tr⟩)
end Go.Eng
set_option maxRecDepth 100000
set_option maxHeartbeats 4000000
namespace Go.Eng
open Go.Proofs Go.RowKit
noncomputable def ZRf:FuncId×Con:=(206,⟨[.leaf 3,.leaf 3],[.leaf 3],fun p=>ZPa p.1 p.2⟩)
theorem ZLg:KQ ZRf:=Zh (Zx (C:=cf0 [ZNh,ZDj,Z3g,ZRo] [] [] []) .no Tryz.func206 [] (fun v vals x z ha hz=>.trans (by kernel_rfl) (Zsu hz)) ⟨Znj,Zpn,ZQi,Zou,tr⟩)
end Go.Eng
set_option maxRecDepth 100000
set_option maxHeartbeats 4000000
namespace Go.Eng
open Go.Proofs Go.RowKit
noncomputable def ZHh:FuncId×Con:=(48,⟨[.slice (.leaf 3),.slice (.leaf 3)],[.leaf 3],fun p=>ZHb p.1 p.2⟩)
theorem Zkk : KQ ZHh := Zh (Zt (C := cf0 [ZAd, Ztf, ZRf] [] [] [((59, "Add"), 203), ((59, "Mul"), 206)]) (.n (.n (.f (.n (.f (.l [0, 1, 4, 5, 9] [] [.s 10 (.dat (.int .i64)), .l (.sl 5) (.box 59 (.dat (.leaf 3)))] 0 [4, 5] [] [.l (.sl 5) (.box 59 (.dat (.leaf 3)))] .no)))))) Tryz.func48 [] (fun _ => by kernel_rfl) ⟨ZLd, Zch, ZLg, tr⟩ tr ⟨Zxi, Zvh, tr⟩)
end Go.Eng
set_option maxRecDepth 100000
set_option maxHeartbeats 4000000
namespace Go.Eng
open Go.Proofs Go.RowKit
noncomputable def Zsk:FuncId×Con:=(52,⟨[.slice (.slice (.leaf 3)),.slice (.leaf 3)],[.slice (.leaf 3)],fun p=>Zbg p.1 p.2⟩)
theorem Zhn:KQ Zsk:=Zh (Zt (C:=cf0 [ZHh] [] [] []) (.n (.n (.f (.n (.f (.l [1,8,9] [] [.s 5 (.own 59 (.leaf 3)),.s 10 (.dat (.int .i64))] 0 [] [] [.s 5 (.own 59 (.leaf 3))] .no)))))) Tryz.func52 [] (fun _=>by kernel_rfl) ⟨Zkk,tr⟩)
end Go.Eng
set_option maxRecDepth 100000
set_option maxHeartbeats 4000000
namespace Go.Eng
open Go.Proofs Go.RowKit
noncomputable def ZRt:FuncId×Con:=(46,⟨[.pair (.slice (.slice (.leaf 3))) (.pair (.slice (.leaf 3)) (.slice (.leaf 3))),.slice (.leaf 3)],[.bool],fun p=>Zbs p.1 p.2⟩)
theorem ZMx:KQ ZRt:=Zh (Zt (C:=cf0 [ZSg,Zei,Zsk] [] [] []) (.n (.f (.j [] [] [.s 4 (.dat .bool)] .no))) Tryz.func46 [] (fun _=>by kernel_rfl) ⟨Zai,ZQk,Zhn,tr⟩)
noncomputable def ZBk (x:Int) (y:Int):Option (Int×Int) :=
 bnd (Z5b x y) fun a =>
 some ((a.1,a.2))
end Go.Eng
namespace Go.Eng
open Go.Proofs Go.RowKit
theorem bmul_w {c:World} {a:Zb} (hv:VIn a c) {d:List Value} {x:Int} (i:Rep.rel (Zd .u64) a d x) {e:List Value} {y:Int} (j:Rep.rel (Zd .u64) a e y) {z:Int×Int} (H:ZBk x y=some z):Ret Tryz.prog 127 #[(Zd .u64).val d,(Zd .u64).val e] c a (fun y v'=>∃ g b,y = .tuple #[(Zd .u64).val g,(Zd .u64).val b]∧(Zd .u64).rel v' g z.1∧(Zd .u64).rel v' b z.2):=by
 obtain ⟨rfl,b⟩:=i;obtain ⟨rfl,k⟩:=j;refine Zki (K:=30) (args:=[.int .u64 x,.int .u64 y]) hv Tryz.func127 rfl rfl zl fun f S=>?_;unfold ZBk at H;refine sr (mw S rfl fun f S=>mw S rfl fun f S=>oe (Zy fun _ l=>Zza S rfl rfl (wp_skip (Zp (l _ _ (Zy fun _ m=>bO H fun h n H=>ZP (mv S rfl fun f S=>mv S rfl fun f S=>opc S rfl (Zja S [.int .u64 x,.int .u64 y] ZXl rfl rfl) (Z7n S.vin (show Rep.rel (Zd .u64) _ [.int .u64 x] x from (Z1 b)) (show Rep.rel (Zd .u64) _ [.int .u64 y] y from (Z1 k)) n) ?_)))))));rintro _ s f w t ⟨u,v,rfl,o,p⟩ S;obtain ⟨rfl,q⟩:=o;obtain ⟨rfl,r⟩:=p;refine mv S rfl fun f S=>ov S rfl (Zra S rfl rfl) fun f S=>ov S rfl (Zra S rfl rfl) fun f S=>mw S rfl fun f S=>mw S rfl fun f S=>ZJ (Zp (m _ _ (sr (mv S rfl fun f S=>mv S rfl fun f S=>mw S rfl fun f S=>mw S rfl fun f S=>oe (wp_ret ?_)))));obtain rfl:=ZG H;refine ZDf S (Z4j rfl (ZOa S rfl) (ZOa S rfl)) ⟨[.int .u64 (h.1)],[.int .u64 (h.2)],rfl,(Z1 q),(Z1 r)⟩
set_option maxRecDepth 100000
theorem Z6l:Elem Tryz.prog 31 59 (ZY).n 56 (Value.agg #[Value.bool false,Value.slice none 0 0,Value.slice none 0 0]):=⟨Tryz.underlying31,by kernel_rfl,rfl,by decide⟩
theorem Z1i:Zzb Tryz.prog 31 59 (ZY).n:=⟨fun _=>by kernel_rfl,fun _=>by kernel_rfl⟩
theorem Zww:Tryz.prog.follows .mixedOrders=true:=by kernel_rfl
theorem ZVw:ZH Tryz.prog 127:=fun _ _=>by kernel_rfl
theorem Z7o:ConvI Tryz.prog 3 200 .i64 .u64:=fun _ _=>by kernel_rfl
theorem ZEw:ConvI Tryz.prog 200 3 .u64 .i64:=fun _ _=>by kernel_rfl
noncomputable def Zlf:FuncId×ConO:=(93,⟨[.slice (.leaf 3),.int .i64],59,.leaf 3,fun p=>Zrc 56 p.1 p.2⟩)
theorem ZXi:Z0e Tryz.prog Zlf.1 Zlf.2:=fun w v vals x z hv ha hz=>by
 obtain ⟨cs,vs,rfl,p0,c1,rfl,rfl,hin⟩:=ha
 obtain ⟨x1,k0⟩:=x
 have hz:Zrc 56 (show List Rat from x1) k0=some z:=hz
 obtain ⟨y,hx1,hzr,hmk⟩:=Z4y hz
 have hx1:x1=[y]:=hx1
 subst hx1 hzr
 obtain ⟨h0,_,hb1,hb2⟩:=Zbd hmk
 obtain ⟨k,rfl⟩:=Int.eq_ofNat_of_zero_le h0
 obtain ⟨q,c,e,hc1,hc2,hne⟩:=(show (Zm ZY).rel v cs [y] from p0)
 subst e
 rcases hne with hne | ⟨b,off,cc,TT,fr,rfl,hvb,hrel⟩
 ·cases hne
 have hlen1:([y]:List Rat).length=1:=rfl
 rw [hlen1] at hrel
 obtain ⟨c1,c2,e12,hrc,e2⟩:=hrel
 have e2:c2=[]:=e2
 subst e2
 rw [List.append_nil,Nat.one_mul] at e12
 have hl1:=Rep.len _ hrc
 have hAt:At v b off c1:=⟨cc,TT,fr,hvb,by rw [hl1];exact e12⟩
 refine ⟨fun _ _=>by kernel_rfl,?_⟩
 have hk:((k:Int).toNat)=k:=Int.toNat_natCast k
 rw [hk]
 refine Zck (K:=48) (args:=[.slice (some ⟨b,off,none⟩) 1 c,.int .i64 (k:Int)]) hv Tryz.func93 rfl rfl zl fun fa hS=>?_
 refine sr ?_
 refine mw hS rfl fun fa hS=>?_
 refine oe ?_
 refine wp_seq_k fun N1 hN1=>?_
 refine sr ?_
 refine mv hS rfl fun fa hS=>?_
 refine ov hS rfl (ZA hS rfl rfl Z3d) fun fa hS=>?_
 refine oe ?_
 refine Zza hS rfl (decide_eq_false (by omega)) ?_
 refine wp_skip ?_
 refine Zp (hN1 _ _ ?_)
 refine sr ?_
 refine mv hS rfl fun fa hS=>?_
 refine ov hS rfl (ZJb hS rfl rfl Z1i) fun fa hS=>?_
 refine ov hS rfl (Zhf hS rfl (Z7o _)) fun fa hS=>?_
 refine mv hS rfl fun fa hS=>?_
 refine ov hS rfl (Zhf hS rfl (Z7o _)) fun fa hS=>?_
 have w1:IntKind.u64.wrap ((1:Nat):Int)=1:=by decide
 have w2:IntKind.u64.wrap (k:Int)=k:=Zie (ZQc.2 (by omega))
 rw [w1,w2] at hS
 have hmul:ZBk 1 (k:Int)=some (0,(k:Int)):=by
  unfold ZBk Z5b;rw [if_pos (by omega),Za];simp only;congr 2 <;> omega
 refine Z5r hS wn rfl zl (Zja hS [.int .u64 1,.int .u64 (k:Int)] ZVw rfl rfl) (bmul_w hS.vin (show Rep.rel (Zd .u64) _ [.int .u64 1] 1 from Z1 (by decide)) (show Rep.rel (Zd .u64) _ [.int .u64 (k:Int)] (k:Int) from Z1 (ZQc.2 (by omega))) hmul) ?_;rintro _ v1 fa wo hle ⟨r0,r1,rfl,⟨rfl,_⟩,⟨rfl,_⟩⟩ hS;refine mv hS rfl fun fa hS=>?_;refine ov hS rfl (Zra hS rfl rfl) fun fa hS=>?_;refine ov hS rfl (Zra hS rfl rfl) fun fa hS=>?_;refine mw hS rfl fun fa hS=>?_;refine mw hS rfl fun fa hS=>?_;refine oe ?_;refine wp_seq_k fun N2 hN2=>?_;refine sr ?_;refine mv hS rfl fun fa hS=>?_;refine ov hS rfl (ZA hS rfl rfl ZAf) fun fa hS=>?_;have g1:decide ((0:Int)<0)=false:=rfl;have hS:St _ _ _ ((22,Value.bool false) :: _) _ _ _ _:=hS;refine mv hS rfl fun fa hS=>?_;refine op_v hS (Z8e hS rfl rfl rfl zl) rfl zl (ZD hS rfl) fun fa hS=>?_;refine op_v hS (Z8e hS rfl rfl rfl zl) rfl zl (ZA hS rfl rfl ZAf) fun fa hS=>?_;refine ov hS rfl (ZPe (b:=false) hS rfl rfl) fun fa hS=>?_;refine oe ?_;refine Zza hS rfl (decide_eq_false (by omega)) ?_;refine wp_skip ?_;refine Zp (hN2 _ _ ?_);refine sr ?_;refine mv hS rfl fun fa hS=>?_;refine ov hS rfl (Zhf hS rfl (ZEw _)) fun fa hS=>?_;have w3:IntKind.i64.wrap (k:Int)=k:=Zie (ZSa.2 (by omega));rw [w3] at hS;obtain ⟨b2,wo,hrun,hS'⟩:=Zyl Z6l hS (l:=(k:Int)) (c:=(k:Int)) h0 (Int.le_refl _) hb1 hb2
 refine Zyc wn rfl zl (hrun rfl rfl) hS' fun fa hS=>?_;refine mw hS rfl fun fa hS=>?_;refine oe ?_;rw [hk] at hS;have hS:=hS.fr' (σ':=[(7,.slice (mkA (some b2)) k k),(0,.slice (some ⟨b,off,none⟩) 1 c)]) rfl;have src1:∀ {σ:List (Nat×Value)} {ℓ:List Loc} {v':Zb} {a:Act} {w':World},St 48 w v σ ℓ v' a w'→∀ j u,c1[j]? = some u→w'.cell? ((⟨b,off,none⟩:Addr).add j)=some u:=fun hS j u hu=>by
  have:=(hS.view (At.mono hS.vst.le hAt)).cell hu
  rwa [Zga]
 have hpl1:c1.all plain=true:=Rep.flat _ hrc;obtain ⟨zc,hzc⟩:∃ zc:List Value,zc=(Value.agg #[Value.bool false,Value.slice none 0 0,Value.slice none 0 0]:Value).cells.toList:=⟨_,rfl⟩;have hzl:zc.length=(ZY).n:=by rw [hzc];rfl
 rw [← hzc] at hS
 let Inv:Nat→Act→World→Prop:=fun j a w'=>∃ v',j≤k∧(0<k→0<j)∧St 48 w v [(8,.int .i64 (j:Int)),(7,.slice (mkA (some b2)) k k)] [.own (some b2) 59 (ZY).n k k ((List.replicate j c1).flatten++(List.replicate (k-j) zc).flatten)] v' a w'
 have rl:=fun n=>Zbl hl1 n;have rpl:∀ n:Nat,((List.replicate n c1).flatten).all plain=true:=fun n=>Z2w hpl1 n;have step:=fun j m (hjm:j+m≤k)=>rp_step (k:=k) hl1 hzl hjm;refine sr ?_;refine mv hS rfl fun fa hS=>?_;refine mv hS rfl fun fa hS=>?_;have hS1:St 48 w v _ [.own (some b2) 59 (ZY).n k k ((List.replicate 0 c1).flatten++(List.replicate (k-0) zc).flatten)] v1 fa wo:=hS;obtain ⟨wo2,hr,hS'⟩:=Z5p (t:=31) (sT:=31) Z6l hS1 (i:=0) rfl (p:=0) (k:=min 1 k) (c:=(List.replicate (min 1 k) c1).flatten) (rl _) (by omega) (rpl _) (ad:=⟨b,off,none⟩) (sLen:=1) (sCap:=c) (dLen:=k) (dCap:=k) (fun j u hu=>by
  rcases Nat.lt_or_ge 0 k with hk0 | hk0
  ·rw [show min 1 k=1 by omega] at hu;simp only [List.replicate_one,List.flatten_cons,List.flatten_nil,List.append_nil] at hu;exact src1 hS1 j u hu
  ·rw [show min 1 k=0 by omega] at hu;simp at hu) rfl
 have hst:=step 0 (min 1 k) (by omega);simp only [List.set_cons_zero] at hS';rw [hst] at hS';simp only [Nat.zero_add] at hS';rw [Nat.zero_mul] at hr;refine Zyc wn rfl zl (Zyr hS1 rfl rfl (hr _)) hS' fun fa hS=>?_;refine mw hS rfl fun fa hS=>?_;refine oe ?_;have hS:=hS.fr' (σ':=[(8,.int .i64 ((min 1 k:Nat):Int)),(7,.slice (mkA (some b2)) k k)]) rfl;refine wp_seq_k fun N3 hN3=>?_;refine wp_block ?_;refine wp_loop_fuel (fun m a w'=>∃ j,k-j<m∧Inv j a w') (k+1) ⟨min 1 k,by omega,v1,by omega,by omega,hS⟩ (fun a w' ⟨j,h,_⟩=>by omega) ?_;rintro m fa wo3 ⟨j,hjm,v3,hjk,hj0,hS⟩ N hN;refine wp_seq_k fun N4 hN4=>?_;refine sr ?_;refine mv hS rfl fun fa hS=>?_;refine mv hS rfl fun fa hS=>?_;refine ov hS rfl (ZJb hS rfl rfl Z1i) fun fa hS=>?_;refine ov hS rfl (ZA hS rfl rfl Z3d) fun fa hS=>?_;refine oe ?_;by_cases hlt:j<k
 ·refine Zlb hS rfl (decide_eq_true (by omega)) ?_;refine wp_skip ?_;refine Zp (hN4 _ _ ?_);refine wp_block ?_;have hS:=hS.fr' (σ':=[(8,.int .i64 (j:Int)),(7,.slice (mkA (some b2)) k k)]) rfl;refine Zrg (fl:=#[true,true,true,true,true,true,true,false,false,false]) Zww (by kernel_rfl) hS ?_;intro ops hops hF wo hS;refine rf hops hF 0 rfl (by kernel_rfl) rfl hS (ZD hS rfl) fun fa hS=>?_;refine rf hops hF 1 rfl (by kernel_rfl) rfl hS (ZD hS rfl) fun fa hS=>?_;refine rf hops hF 2 rfl (by kernel_rfl) rfl hS (ZD hS rfl) fun fa hS=>?_;refine rf hops hF 3 rfl (by kernel_rfl) rfl hS (Z9u hS Z1i rfl rfl (by omega) (by omega)) fun fa hS=>?_;refine rf hops hF 4 rfl (by kernel_rfl) rfl hS (ZD hS rfl) fun fa hS=>?_;refine rf hops hF 5 rfl (by kernel_rfl) rfl hS (ZD hS rfl) fun fa hS=>?_;refine rf hops hF 6 rfl (by kernel_rfl) rfl hS (Zwm hS Z1i rfl rfl (by omega) (by omega)) fun fa hS=>?_;rw [Nat.zero_add] at hS;obtain ⟨wo',hr,hS'⟩:=Z5p (t:=31) (sT:=31) Z6l hS (i:=0) rfl (p:=j) (k:=min j (k-j)) (c:=(List.replicate (min j (k-j)) c1).flatten) (rl _) (by omega) (rpl _) (ad:=⟨b2,0,none⟩) (sLen:=j) (sCap:=k) (dLen:=k-j) (dCap:=k-j) (fun i u hu=>by
   have hi:=(List.getElem?_eq_some_iff.1 hu).1;refine Zih hS (j:=0) rfl i u ?_;rw [Zyp (c:=c1) (m:=min j (k-j)) (n:=j) (by omega),List.append_assoc,List.getElem?_append_left hi];exact hu) rfl
  have hst:=step j (min j (k-j)) (by omega);simp only [List.set_cons_zero] at hS';rw [hst] at hS';refine Zue hops hF 7 (by kernel_rfl) ?_;refine ZJl [3,6,1,2,4,5] [0] hops rfl (by kernel_rfl) wn rfl zl (Zyr hS rfl rfl (hr _)) hS' fun fa hS=>?_;refine ⟨(py hS rfl rfl (ZD hS rfl) Z7b),?_⟩;refine Zue hops hF 8 (by kernel_rfl) ?_;have hadd:chk .i64 ((j:Int)+((min j (k-j):Nat):Int))=some ((j+min j (k-j):Nat):Int):=by rw [Zu (by omega) (by omega)];rfl
  refine nv [0,7,3,6,1,2,4,5] [] hops rfl (by kernel_rfl) rfl hS (ZA hS rfl rfl (ZZf hadd)) fun fa hS=>?_;refine ⟨Z7b,?_⟩;refine Zue hops hF 9 (by kernel_rfl) ?_;refine nv [0,1,2,3,4,5,6,7,8] [] hops rfl (by kernel_rfl) rfl hS (Zed hS rfl) fun fa hS=>?_;refine ⟨Z7b,?_⟩;refine ZCj hops hF (by kernel_rfl) ?_;refine Zxd ?_;have hj0:=hj0 (by omega);exact Zp (hN _ _ ⟨j+min j (k-j),by omega,v3,by omega,fun _=>by omega,hS.fr' rfl⟩)
 refine Zza hS rfl (decide_eq_false (by omega)) ?_;refine wp_exit ?_;refine Z1a ?_;refine Z1a ?_;refine Zod ?_;refine Zp (hN3 _ _ ?_);have hjk:j=k:=by omega
 subst hjk;rw [Nat.sub_self,List.replicate_zero,List.flatten_nil,List.append_nil] at hS;refine sr ?_;refine mv hS rfl fun fa hS=>?_;refine mw hS rfl fun fa hS=>?_;refine oe ?_;refine wp_ret ?_;exact ZOm hS (i:=0) rfl (ZNc rfl (ZOa hS rfl)) (ZJg (Rep.mono _ hS.vst.le hrc) _) (List.length_replicate (n:=j) (a:=y)).symm
end Go.Eng
set_option maxRecDepth 100000
set_option maxHeartbeats 4000000
namespace Go.Eng
open Go.Proofs Go.RowKit
noncomputable def Zgg:FuncId×ConO:=(53,⟨[.int .i64],59,.leaf 3,fun p=>ZZe p⟩)
theorem ZOh:KO Zgg:=cono_z (C:=cf0 [ZAd] [] [Zlf] []) .no Tryz.func53 [] (fun _=>by kernel_rfl) ⟨ZLd,tr⟩ ⟨ZXi,tr⟩
end Go.Eng
set_option maxRecDepth 100000
set_option maxHeartbeats 4000000
namespace Go.Eng
open Go.Proofs Go.RowKit
noncomputable def Zcl:FuncId×Con:=(50,⟨[.pair (.slice (.slice (.leaf 3))) (.pair (.slice (.leaf 3)) (.slice (.leaf 3))),.slice (.leaf 3)],[.slice (.leaf 3)],fun p=>Zrh p.1 p.2⟩)
theorem ZUl : KQ Zcl := Zh (Zt (C := cf0 [Ztf, ZRf] [] [Zgg] [((59, "Add"), 203), ((59, "Mul"), 206)]) (.n (.n (.f (.n (.f (.l [1, 5, 15, 16] [] [.s 17 (.dat (.int .i64)), .l (.sl 5) (.own 59 (.leaf 3))] 0 [5] [] [.l (.sl 5) (.own 59 (.leaf 3))] (.f (.n (.n (.f (.f (.n (.n (.f (.l [1, 5, 6, 15, 16, 17, 22, 23] [] [.s 24 (.dat (.int .i64)), .l (.sl 5) (.own 59 (.leaf 3))] 2 [1, 5, 15, 16, 17] [] [.l (.sl 5) (.own 59 (.leaf 3))] .no))))))))))))))) Tryz.func50 [] (fun _ => by kernel_rfl) ⟨Zch, ZLg, tr⟩ ⟨ZOh, tr⟩ ⟨Zxi, Zvh, tr⟩)
end Go.Eng
set_option maxRecDepth 100000
set_option maxHeartbeats 4000000
namespace Go.Eng
open Go.Proofs Go.RowKit
noncomputable def Zdr:FuncId×Con:=(47,⟨[.pair (.slice (.slice (.leaf 3))) (.pair (.slice (.leaf 3)) (.slice (.leaf 3))),.slice (.leaf 3)],[.bool],fun p=>Zmo p.1 p.2⟩)
theorem pdual_k:KQ Zdr:=Zh (Zt (C:=cf0 [ZSg,Zcl,Zei] [] [] []) (.n (.f (.j [] [] [.s 4 (.dat .bool)] .no))) Tryz.func47 [] (fun _=>by kernel_rfl) ⟨Zai,ZUl,ZQk,tr⟩)
end Go.Eng
set_option maxRecDepth 100000
set_option maxHeartbeats 4000000
namespace Go.Eng
open Go.Proofs Go.RowKit
noncomputable def Zql:FuncId×Con:=(210,⟨[.leaf 3,.leaf 3],[.bool],fun p=>ZFf p.1 p.2⟩)
theorem ZJo:KQ Zql:=Zh (Zx (C:=cf0 [Zjj] [] [] []) (.n (.f (.j [] [] [.s 4 (.dat .bool)] .no))) Tryz.func210 [] (fun v vals x z ha hz=>.trans (by kernel_rfl) (ZGv hz)) ⟨cmp_k,tr⟩)
end Go.Eng
set_option maxRecDepth 100000
set_option maxHeartbeats 4000000
namespace Go.Eng
open Go.Proofs Go.RowKit
noncomputable def Zkp:FuncId×Con:=(14,⟨[.pair (.slice (.slice (.leaf 3))) (.pair (.slice (.leaf 3)) (.slice (.leaf 3))),.pair (.int .i64) (.pair (.leaf 3) (.pair (.slice (.leaf 3)) (.pair (.slice (.leaf 3)) (.slice (.leaf 3)))))],[.bool],fun p=>ZNr p.1 p.2⟩)
theorem ZXt : KQ Zkp := Zh (Zt (C := cf0 [Zng, Zfm, ZRt, Zdr, ZHh, ZSg, Zcl, Zei, Zsk, Zql, ZBd] [] [Zgg] [((59, "Same"), 210), ((59, "Sign"), 211), ((59, "Zero"), 25)]) (.n (.n (.two (.j [2, 3] [] [.s 5 (.dat .bool)] .no) (.f (.n (.f (.n (.two (.f (.j [] [] [.s 4 (.dat .bool)] .no)) (.n (.two (.f (.j [] [] [.s 4 (.dat .bool)] .no)) (.n (.f (.two (.f (.j [2, 3] [] [.s 135 (.dat .bool)] .no)) (.f (.j [] [] [.s 4 (.dat .bool)] .no))))))))))))))) Tryz.func14 [] (fun _ => by kernel_rfl) ⟨ZTi, Zqs, ZMx, pdual_k, Zkk, Zai, ZUl, ZQk, Zhn, ZJo, ZMd, tr⟩ ⟨ZOh, tr⟩ ⟨Zhr, ZOe, Ztk, tr⟩)
end Go.Eng
namespace Go.Eng
open Go.Proofs Go.RowKit
set_option maxRecDepth 100000
theorem Zso:Elem Tryz.prog 31 59 (ZY).n 56 (Value.agg #[Value.bool false,Value.slice none 0 0,Value.slice none 0 0]):=⟨Tryz.underlying31,by kernel_rfl,rfl,by decide⟩
noncomputable def Z7g:FuncId×ConO:=(71,⟨[.slice (.leaf 3)],59,.leaf 3,fun p=>Z6c 56 p⟩)
theorem ZNk:Z0e Tryz.prog Z7g.1 Z7g.2:=fun w v vals x z hv ha hz=>by
 obtain ⟨cs,rfl,p0⟩:=ha
 have hz:Z6c 56 (show List Rat from x)=some z:=hz
 obtain ⟨hb,rfl⟩:=Zev hz
 obtain ⟨q,n,c,rfl⟩:=Z5f (show (Zm ZY).rel v cs z from p0)
 refine ⟨fun _ _=>by kernel_rfl,?_⟩
 have hn:n=(show List Rat from z).length:=by obtain ⟨_,_,e,_⟩:=p0;cases e;rfl
 refine Zck (K:=8) (args:=[.slice q n c]) hv Tryz.func71 rfl rfl zl fun fa hS=>?_
 refine sr ?_
 refine mw hS rfl fun fa hS=>?_
 refine oe ?_
 refine wp_seq_k fun N1 hN1=>?_
 refine sr ?_
 refine mv hS rfl fun fa hS=>?_
 refine ov hS rfl (Zjy hS Tryz.underlying31 rfl rfl) fun fa hS=>?_
 refine oe ?_
 cases q with
 | none =>
  refine Zlb hS rfl rfl ?_
  have hx:(show List Rat from z)=[]:=by
   obtain ⟨q',c',e,_,_,h3⟩:=p0
   cases e
   rcases h3 with h3 | ⟨_,_,_,_,_,h4,_⟩
   ·exact h3
   ·cases h4
  have hx0:n=0:=by rw [hn,hx];rfl
  refine sr ?_;refine mw hS rfl fun fa hS=>?_;refine oe ?_;refine wp_ret ?_;refine ZVi ?_;have hS2:=hS.nilLoc 59 (ZY).n;have:=ZOm (P:=Tryz.prog) (A:=ZY) hS2 (i:=0) (ob:=none) (n:=0) (cap:=0) (cs:=[]) rfl (ZNc (fn:=Tryz.f71) (r:=.tmp 2) rfl (ZOa (t:=2) (y:=.slice (mkA none) 0 0) hS2 rfl)) (l:=([]:List Rat)) ZDd rfl;rw [hx];exact this
 | some ad =>
  refine Zza hS rfl rfl ?_;refine wp_skip ?_;refine Zp (hN1 _ _ ?_);refine sr ?_;obtain ⟨b,wo,hrun,hS⟩:=Zgy Zso hS;refine Zyc wn rfl zl hrun hS fun fa hS=>?_;refine mv hS rfl fun fa hS=>?_;obtain ⟨b',cap',cs2,wo,hr,hS',hrel⟩:=Z0f (ty:=31) (A:=ZY) Zso hS (i:=0) rfl (Rep.mono (Zm ZY) hS.vst.le p0) (n':=n) (by omega) (by rw [hn];exact hb) (by decide);refine Zyc wn rfl zl (Zhe hS rfl rfl hr) hS' fun fa hS=>?_;refine mw hS rfl fun fa hS=>?_;refine oe ?_;refine wp_ret ?_;exact ZOm hS (i:=0) rfl (ZNc rfl (ZOa hS rfl)) hrel hn
end Go.Eng
set_option maxRecDepth 100000
set_option maxHeartbeats 4000000
namespace Go.Eng
open Go.Proofs Go.RowKit
noncomputable def Zoo:FuncId×ConM:=(81,⟨[.slice (.slice (.leaf 3))],31,59,.leaf 3,fun p=>ZDs p⟩)
theorem Zew:KW Zoo:=conm_z (C:=cf0 [] [8] [Z7g] []) (.n (.n (.f (.n (.f (.l [3,9,10] [] [.s 11 (.dat (.int .i64)),.l (.sl 3) (.mat 31 59 (.leaf 3))] 0 [3] [] [.l (.sl 3) (.mat 31 59 (.leaf 3))] .no)))))) Tryz.func81 [] (fun _=>by kernel_rfl) tr ⟨ZNk,tr⟩
end Go.Eng
set_option maxRecDepth 100000
set_option maxHeartbeats 4000000
namespace Go.Eng
open Go.Proofs Go.RowKit
noncomputable def ZTt:FuncId×Con:=(111,⟨[.ptr (.pair (.slice (.slice (.leaf 3))) (.pair (.slice (.leaf 3)) (.pair (.slice (.leaf 3)) (.pair (.leaf 3) (.pair (.slice (.int .i64)) (.slice (.int .i64))))))),.int .i64],[.slice (.leaf 3)],fun p=>ZKn p.1 p.2⟩)
theorem ZCx:KQ ZTt:=Zh (Zt (C:=cf0 [] [] [Zgg] []) (.n (.n (.f (.n (.f (.l [0,1,5,13,14] [] [.s 15 (.dat (.int .i64)),.l (.sl 5) (.own 59 (.leaf 3))] 0 [5] [] [.l (.sl 5) (.own 59 (.leaf 3))] (.f (.n (.n (.f (.f (.n (.n (.j [0,1,5,13,14,15] [] [.l (.sl 5) (.own 59 (.leaf 3))] .no)))))))))))))) Tryz.func111 [] (fun _=>by kernel_rfl) tr ⟨ZOh,tr⟩)
end Go.Eng
set_option maxRecDepth 100000
set_option maxHeartbeats 4000000
namespace Go.Eng
open Go.Proofs Go.RowKit
noncomputable def Zmr:FuncId×Con:=(112,⟨[.ptr (.pair (.slice (.slice (.leaf 3))) (.pair (.slice (.leaf 3)) (.pair (.slice (.leaf 3)) (.pair (.leaf 3) (.pair (.slice (.int .i64)) (.slice (.int .i64))))))),.int .i64,.int .i64],[.slice (.leaf 3)],fun p=>Znp p.1 p.2.1 p.2.2⟩)
theorem ZYu : KQ Zmr := Zh (Zt (C := cf0 [ZCe] [] [Zgg] [((59, "Neg"), 208)]) (.n (.n (.f (.n (.f (.l [0, 1, 2, 7, 15, 16] [] [.s 17 (.dat (.int .i64)), .l (.sl 7) (.own 59 (.leaf 3))] 0 [7] [] [.l (.sl 7) (.own 59 (.leaf 3))] (.f (.n (.n (.f (.f (.n (.two (.j [0, 1, 2, 7, 8, 9, 15, 16, 17] [] [.s 31 (.dat .bool)] .no) (.j [0, 1, 2, 7, 15, 16, 17] [] [.l (.sl 7) (.own 59 (.leaf 3))] .no)))))))))))))) Tryz.func112 [] (fun _ => by kernel_rfl) ⟨Zmf, tr⟩ ⟨ZOh, tr⟩ ⟨Zkg, tr⟩)
end Go.Eng
set_option maxRecDepth 100000
set_option maxHeartbeats 4000000
namespace Go.Eng
open Go.Proofs Go.RowKit
noncomputable def ZNj:FuncId×Con:=(205,⟨[.leaf 3,.leaf 3],[.leaf 3,.int .i64],fun p=>ZZg p.1 p.2⟩)
theorem ZGl:KQ ZNj:=Zh (Zx (C:=cf0 [Zng,ZNh,Zpf,ZDj,ZPn,Z3g] [] [] []) (.n (.n (.f (.j [2,3,4] [] [.s 6 (.box 57 (.dat (.leaf 2)))] .no)))) Tryz.func205 [] (fun v vals x z ha hz=>.trans (by kernel_rfl) (Zuy hz)) ⟨ZTi,Znj,Zdh,Zpn,Zzq,ZQi,tr⟩)
end Go.Eng
set_option maxRecDepth 100000
set_option maxHeartbeats 4000000
namespace Go.Eng
open Go.Proofs Go.RowKit
noncomputable def ZYl:FuncId×ConB:=(138,⟨176,(.agg (.cons (.mat 31 59 (.leaf 3)) (.cons (.own 59 (.leaf 3)) (.cons (.own 59 (.leaf 3)) (.cons (.dat (.leaf 3)) (.cons (.own 3 (.int .i64)) (.one (.own 3 (.int .i64))))))))),[.int .i64,.int .i64],[],fun z x=>Z2i z x.1 x.2⟩)
theorem Zhp : KB ZYl := ZOg (C := cf0 [Zng, ZAd, Ztf, ZNj, ZRf, ZCe, ZQe] [] [] [((59, "Add"), 203), ((59, "Div"), 205), ((59, "Mul"), 206), ((59, "Neg"), 208), ((59, "Sub"), 212), ((59, "Zero"), 25)]) (.n (.n (.two (.n (.f (.l [0, 1, 2, 7, 37] [] [.s 38 (.dat (.int .i64)), .l (.sl 20) (.mat 31 59 (.leaf 3))] 0 [0, 1, 2, 7] [] [.l (.sl 20) (.mat 31 59 (.leaf 3))] .no))) (.n (.n (.f (.n (.f (.l [0, 1, 2, 94] [] [.s 95 (.dat (.int .i64)), .l (.sl 67) (.mat 31 59 (.leaf 3)), .l (.sl 77) (.own 59 (.leaf 3))] 2 [0, 1, 2] [] [.l (.sl 67) (.mat 31 59 (.leaf 3)), .l (.sl 77) (.own 59 (.leaf 3))] (.f (.n (.n (.f (.j [0, 1, 2, 94, 95] [] [.l (.fld (.sl 0) 0) (.mat 31 59 (.leaf 3)), .l (.fld (.sl 0) 1) (.own 59 (.leaf 3))] (.f (.n (.f (.f (.j [0, 1, 2, 10, 94, 95] [] [.s 114 (.dat .bool)] .no))))))))))))))))))) Tryz.func138 [(169, Tryz.f169, .sel 1 (.n (.f (.n (.f (.l [0, 1, 2, 3, 8, 15] [] [.s 16 (.dat (.int .i64)), .l (.fld (.sl 0) 0) (.agg (.mat 31 59 (.leaf 3)))] 0 [0, 1, 2, 3, 8] [] [.l (.fld (.sl 0) 0) (.agg (.mat 31 59 (.leaf 3)))] .no))))) (.n (.f (.n (.f (.l [0, 1, 2, 3, 8, 15] [] [.s 16 (.dat (.int .i64)), .l (.sl 1) (.own 59 (.leaf 3))] 0 [0, 1, 2, 3, 8] [] [.l (.sl 1) (.own 59 (.leaf 3))] .no))))))] (fun _ _ => by kernel_rfl) ⟨ZTi, ZLd, Zch, ZGl, ZLg, Zmf, Zjf, tr⟩ tr ⟨Zxi, Zyn, Zvh, Zkg, ZFg, Ztk, tr⟩ ⟨⟨Tryz.func169, fun _ _ => by kernel_rfl⟩, tr⟩
end Go.Eng
set_option maxRecDepth 100000
set_option maxHeartbeats 4000000
namespace Go.Eng
open Go.Proofs Go.RowKit
noncomputable def ZSs:FuncId×ConB:=(142,⟨176,(.agg (.cons (.mat 31 59 (.leaf 3)) (.cons (.own 59 (.leaf 3)) (.cons (.own 59 (.leaf 3)) (.cons (.dat (.leaf 3)) (.cons (.own 3 (.int .i64)) (.one (.own 3 (.int .i64))))))))),[],[.int .i64],fun z x=>Zjr z⟩)
theorem Z7u : KB ZSs := ZOg (C := cf0 [ZBd] [] [] [((59, "Sign"), 211)]) (.n (.n (.f (.n (.f (.l [0, 9, 10] [] [.s 3 (.dat (.int .i64)), .s 11 (.dat (.int .i64))] 0 [] [] [.s 3 (.dat (.int .i64))] (.f (.n (.n (.f (.f (.n (.two (.j [0, 3, 4, 9, 10, 11] [] [.s 40 (.dat .bool)] .no) (.j [0, 9, 10, 11] [] [.s 3 (.dat (.int .i64))] .no)))))))))))))) Tryz.func142 [] (fun _ _ => by kernel_rfl) ⟨ZMd, tr⟩ tr ⟨ZOe, tr⟩
end Go.Eng
set_option maxRecDepth 100000
set_option maxHeartbeats 4000000
namespace Go.Eng
open Go.Proofs Go.RowKit
noncomputable def ZCt:FuncId×ConB:=(143,⟨176,(.agg (.cons (.mat 31 59 (.leaf 3)) (.cons (.own 59 (.leaf 3)) (.cons (.own 59 (.leaf 3)) (.cons (.dat (.leaf 3)) (.cons (.own 3 (.int .i64)) (.one (.own 3 (.int .i64))))))))),[.int .i64,.int .i64],[.int .i64],fun z x=>Z4p z x.1 x.2⟩)
theorem Znu : KB ZCt := ZOg (C := cf0 [ZAi, ZNj, ZBd] [] [] [((59, "Cmp"), 204), ((59, "Div"), 205), ((59, "Sign"), 211)]) (.n (.n (.n (.f (.n (.f (.l [0, 1, 2, 8, 17] [] [.s 7 (.dat (.int .i64)), .s 18 (.dat (.int .i64)), .l (.sl 8) (.box 59 (.dat (.leaf 3)))] 0 [] [] [.s 7 (.dat (.int .i64))] (.f (.n (.n (.f (.j [0, 1, 2, 8, 17, 18] [] [.s 7 (.dat (.int .i64)), .l (.sl 8) (.box 59 (.dat (.leaf 3)))] (.f (.n (.n (.n (.n (.two (.n (.j [0, 1, 2, 7, 8, 9, 10, 17, 18] [] [.s 12 (.dat (.int .i64))] .no)) (.two (.j [0, 1, 2, 7, 8, 9, 10, 17, 18] [] [.s 110 (.dat .bool)] .no) (.j [0, 1, 2, 8, 17, 18] [] [.s 7 (.dat (.int .i64)), .l (.sl 8) (.box 59 (.dat (.leaf 3)))] .no)))))))))))))))))))) Tryz.func143 [] (fun _ _ => by kernel_rfl) ⟨ZCk, ZGl, ZMd, tr⟩ tr ⟨ZZi, Zyn, ZOe, tr⟩
end Go.Eng
set_option maxRecDepth 100000
set_option maxHeartbeats 4000000
namespace Go.Eng
open Go.Proofs Go.RowKit
noncomputable def ZSm:FuncId×ConB:=(110,⟨176,(.agg (.cons (.mat 31 59 (.leaf 3)) (.cons (.own 59 (.leaf 3)) (.cons (.own 59 (.leaf 3)) (.cons (.dat (.leaf 3)) (.cons (.own 3 (.int .i64)) (.one (.own 3 (.int .i64))))))))),[.int .i64],[.int .i64],fun z x=>ZQl z x⟩)
theorem Zcq:KB ZSm:=ZOg (C:=cf1 [] [] [] [] [] [ZYl,ZSs,ZCt] []) (.n (.f (.cut ⟨⟨[0,1],[.fld (.sl 0) 0,.fld (.sl 0) 1,.fld (.sl 0) 2,.fld (.sl 0) 6,.fld (.sl 0) 7],[.l (.sl 0) (.box 176 (.agg (.cons (.mat 31 59 (.leaf 3)) (.cons (.own 59 (.leaf 3)) (.cons (.own 59 (.leaf 3)) (.cons (.dat (.leaf 3)) (.cons (.own 3 (.int .i64)) (.one (.own 3 (.int .i64))))))))))]⟩,[(.ret,⟨[],[.fld (.sl 0) 0,.fld (.sl 0) 1,.fld (.sl 0) 2,.fld (.sl 0) 6,.fld (.sl 0) 7],[.s 1000 (.dat (.int .i64)),.l (.sl 0) (.box 176 (.agg (.cons (.mat 31 59 (.leaf 3)) (.cons (.own 59 (.leaf 3)) (.cons (.own 59 (.leaf 3)) (.cons (.dat (.leaf 3)) (.cons (.own 3 (.int .i64)) (.one (.own 3 (.int .i64))))))))))]⟩)]⟩ .no))) Tryz.func110 [] (fun _ _=>by kernel_rfl) tr tr tr tr tr ⟨Zhp,Z7u,Znu,tr⟩
end Go.Eng
set_option maxRecDepth 100000
set_option maxHeartbeats 4000000
namespace Go.Eng
open Go.Proofs Go.RowKit
noncomputable def Zlp:FuncId×ConB:=(112,⟨176,(.agg (.cons (.mat 31 59 (.leaf 3)) (.cons (.own 59 (.leaf 3)) (.cons (.own 59 (.leaf 3)) (.cons (.dat (.leaf 3)) (.cons (.own 3 (.int .i64)) (.one (.own 3 (.int .i64))))))))),[.int .i64,.int .i64],[.slice (.leaf 3)],fun z x=>ZUo z x.1 x.2⟩)
theorem Zgu : KB Zlp := ZOg (C := cf0 [ZAd, ZCe] [] [Zlf] [((59, "Neg"), 208)]) (.n (.n (.f (.n (.f (.l [0, 1, 2, 7, 15, 16] [] [.s 17 (.dat (.int .i64)), .l (.sl 7) (.own 59 (.leaf 3))] 0 [7] [] [.l (.sl 7) (.own 59 (.leaf 3))] (.f (.n (.n (.f (.f (.n (.two (.j [0, 1, 2, 7, 8, 9, 15, 16, 17] [] [.s 31 (.dat .bool)] .no) (.j [0, 1, 2, 7, 15, 16, 17] [] [.l (.sl 7) (.own 59 (.leaf 3))] .no)))))))))))))) Tryz.func112 [(53, Tryz.f53, .no)] (fun _ _ => by kernel_rfl) ⟨ZLd, Zmf, tr⟩ ⟨ZXi, tr⟩ ⟨Zkg, tr⟩ ⟨⟨Tryz.func53, fun _ _ => by kernel_rfl⟩, tr⟩
end Go.Eng
namespace Go.Eng
open Go.RowKit
section
variable {P:Program} {K:Nat} {w0:Base} {v0:Zb} {σ:List (Nat×Value)} {ℓ:List Loc} {v:Zb} {a:Act} {w:World}
variable {d:Option Nat} {ty:TypeId} {pos:String} {aft:Array Edge} {g:Option (Nat×Bool)}
theorem Zpo (hS:St K w0 v0 σ ℓ v a w) {t e:TypeId} {sz b n cap p q m:Nat} {x lo hi mx:Operand} {k k2 k3:IntKind} (ht:Zzb P t e sz) (e1:ev σ x=some (.slice (some ⟨b,0,none⟩) n cap)) (e2:ev σ lo=some (.int k (p:Int))) (e3:ev σ hi=some (.int k2 (q:Int))) (e4:ev σ mx=some (.int k3 (m:Int))) (h1:p≤q) (h2:q≤m) (h3:m≤cap) :
  ∃ y,(execOp a.eval ⟨d,.slice t x (some lo) (some hi) (some mx),ty,pos,aft,g⟩).run P w = .ok (.value y) w:=by
 have h4:(0:Int)≤(p:Int)∧(p:Int)≤(q:Int):=by omega
 have h5:(0:Int)≤(q:Int)∧(q:Int)≤(m:Int):=by omega
 have h6:(0:Int)≤(m:Int)∧(m:Int)≤(cap:Int):=by omega
 exact ⟨.slice (if m=p then some ⟨b,0,none⟩ else some (Addr.add ⟨b,0,none⟩ (p*sz))) (q-p) (m-p),by simp [execOp,Instr.sliceAt,Instr.slice,Instr.sliceBounds,Instr.sliceBound,asIntOf,hS.eval e1,hS.eval e2,hS.eval e3,hS.eval e4,ht.1,ht.2,h1,h2,h3,h4,h5,h6]⟩
theorem Zor (hS:St K w0 v0 σ ℓ v a w) {t e:TypeId} {sz b n cap p q:Nat} {x lo hi:Operand} {k k2:IntKind} (ht:Zzb P t e sz) (e1:ev σ x=some (.slice (some ⟨b,0,none⟩) n cap)) (e2:ev σ lo=some (.int k (p:Int))) (e3:ev σ hi=some (.int k2 (q:Int))) (h1:p≤q) (h2:q≤cap) (hc:p<cap) :
  (execOp a.eval ⟨d,.slice t x (some lo) (some hi) none,ty,pos,aft,g⟩).run P w = .ok (.value (.slice (some ⟨b,p*sz,none⟩) (q-p) (cap-p))) w:=by
 have h4:(0:Int)≤(p:Int)∧(p:Int)≤(q:Int):=by omega
 have h5:(0:Int)≤(q:Int)∧(q:Int)≤(cap:Int):=by omega
 have h6:¬ cap=p:=by omega
 simp [execOp,Instr.sliceAt,Instr.slice,Instr.sliceBounds,Instr.sliceBound,asIntOf,hS.eval e1,hS.eval e2,hS.eval e3,ht.1,ht.2,h1,h2,h4,h5,h6,Zga]
theorem Zmp {t e ty:TypeId} {sz bytes:Nat} {z:Value} (E:Elem P t e sz bytes z) (hS:St K w0 v0 σ ℓ v a w) {i n cap b:Nat} {cs:List Value} (hi:ℓ[i]? = some (.own (some b) e sz n cap cs))
  {q m c:Nat} {ad:Addr} {news:List Value} (hl:news.length=m*sz) (hnews:∀ j u,news[j]? = some u→w.cell? (ad.add j)=some u) (hp:news.all plain=true) (hq:q+m≤n) :
  ∃ w',(Builtin.append_ #[t,t] ty #[.slice (some ⟨b,0,none⟩) q cap,.slice (some ad) m c]).run P w = .ok (.slice (some ⟨b,0,none⟩) (q+m) cap) w' ∧
   St K w0 v0 σ (ℓ.set i (.own (some b) e sz n cap (cs.take (q*sz)++news++cs.drop (q*sz+news.length)))) v a w':=by
 obtain ⟨inf,hinf,hz,hs,hby⟩:=info_parts E.info;subst hs;obtain ⟨hcl,cur,hg,hnc,hcx,hcs,htake⟩:=(hS.loc _ (List.mem_of_getElem? hi)).1;have h1:q*inf.size+news.length≤n*inf.size:=by rw [hl,← Nat.add_mul];exact Nat.mul_le_mul_right _ hq
 have h2:n*inf.size≤cap*inf.size:=Nat.mul_le_mul_right _ hnc;have hcl2:cur.toList.length=cap*inf.size:=by simpa using hcs
 have hr:=run_append_room (P:=P) w t ty e inf E.ty hinf b q cap cur hg ad m c news hl hnews (ZVk hp) (by omega) (by omega);refine ⟨_,hr,hS.setRow hi rfl rfl ⟨?_,_,setRow_heap w b cur _ e _ hg,hnc,hcx,?_,?_⟩⟩
 ·simp;omega
 ·simp;omega
 ·show List.take (n*inf.size) (_++_++_)=_;rw [Zmj _ _ _ _ h1 (by omega),htake]
theorem Zer {t e ty:TypeId} {sz bytes:Nat} {z:Value} (E:Elem P t e sz bytes z) (hS:St K w0 v0 σ ℓ v a w) {i n cap b:Nat} {cs:List Value} (hi:ℓ[i]? = some (.own (some b) e sz n cap cs)) {p c:Nat} (hp:p+1≤n) (hz1:∀ x ∈ (Builtin.zeroCells z.cells 1).toList,x.oneCell'=true) :
  ∃ w' zc,zc.length=sz∧(∀ ty,(Builtin.clear_ #[t] ty #[.slice (some ⟨b,p*sz,none⟩) 1 c]).run P w = .ok (.tuple #[]) w') ∧
   St K w0 v0 σ (ℓ.set i (.own (some b) e sz n cap (cs.take (p*sz)++zc++cs.drop (p*sz+zc.length)))) v a w':=by
 obtain ⟨inf,hinf,hz,hs,hby⟩:=info_parts E.info;obtain ⟨hcl,cur,hg,hnc,hcx,hcs,htake⟩:=(hS.loc _ (List.mem_of_getElem? hi)).1;have hzl:(Builtin.zeroCells z.cells 1).toList.length=sz:=by
  have:=size_zeroCells z.cells 1;rw [E.cells] at this
  simpa using this
 have h1:p*sz+sz≤n*sz:=by
  have:=Nat.mul_le_mul_right sz hp;rw [Nat.add_mul,Nat.one_mul] at this;exact this
 have h2:n*sz≤cap*sz:=Nat.mul_le_mul_right _ hnc;have hcl2:cur.toList.length=cap*sz:=by simpa using hcs
 have hst:=run_storeCells_at P b (p*sz) e (Builtin.zeroCells z.cells 1).toList 0 cur w hg (by rw [hzl];omega) hz1;have hzv:∀ w:World,(zeroValue e).run P w = .ok z w:=fun w=>by simp [zeroValue,typeInfo,hinf,hz]
 refine ⟨_,(Builtin.zeroCells z.cells 1).toList,hzl,fun ty=>?_,hS.setRow hi rfl rfl (c:=(cur.toList.take (p*sz)++(Builtin.zeroCells z.cells 1).toList++cur.toList.drop (p*sz+(Builtin.zeroCells z.cells 1).toList.length)).toArray) ⟨?_,_,setRow_heap w b cur _ e _ hg,hnc,hcx,?_,?_⟩⟩
 ·simp at hst;simp [Builtin.clear_,run_underlying E.ty,hzv,hst]
 ·simp at hzl ⊢;omega
 ·simp at hzl ⊢;omega
 ·show List.take (n*sz) (_++_++_)=_;rw [Zmj _ _ _ _ (by rw [hzl];exact h1) (by omega),htake]
theorem ZHo (hS:St K w0 v0 σ ℓ v a w) {t:TypeId} {x:Operand} {p r:Value} {w':World} (e:ev σ x=some p) (h:(Builtin.clear_ #[t] ty #[p]).run P w = .ok r w') :
  (execOp a.eval ⟨d,.call ⟨.builtin .clear,#[x],#[t]⟩,ty,pos,aft,g⟩).run P w = .ok (.value r) w':=by
 simp [execOp,resolve,invoke,builtin,hS.eval e,h]
theorem Zms {ops:Array Oper} {Q:Exit→Act→World→Prop} {rest:List Oper} {o:Oper} {x:Value} {w':World} (hw:Region.wanted o (yielded ops a.tmps)=true) (hd:o.dst=none) (hrun:(execOp a.eval o).run P w = .ok (.value x) w') (h:wpList P ops Q rest a w'):wpList P ops Q (o :: rest) a w :=
 Zxc hw (Zze hrun (by rw [hd];exact h))
theorem St.narrow (h:St K w0 v0 σ ℓ v a w) {i b n m cap sz:Nat} {T:TypeId} {cs:List Value} (hi:ℓ[i]? = some (.own (some b) T sz n cap cs)) (hm:m≤n):St K w0 v0 σ (ℓ.set i (.own (some b) T sz m cap (cs.take (m*sz)))) v a w:=by
 obtain ⟨hcl,cur,hg,hnc,hcx,hcs,htake⟩:=(h.loc _ (List.mem_of_getElem? hi)).1;have h1:m*sz≤n*sz:=Nat.mul_le_mul_right _ hm;refine h.setSame hi rfl ⟨?_,cur,hg,by omega,hcx,hcs,?_⟩
 ·rw [List.length_take];omega
 ·rw [← htake,List.take_take,Nat.min_eq_left h1]
end
theorem Zfr {cs zc:List Value} {sz i n:Nat} (hc:cs.length=n*sz) (hi:i<n) (hz:zc.length=sz) :
  (((cs.take (i*sz)++cs.drop ((i+1)*sz)++cs.drop (i*sz+(cs.drop ((i+1)*sz)).length)).take ((n-1)*sz)++zc++(cs.take (i*sz)++cs.drop ((i+1)*sz)++cs.drop (i*sz+(cs.drop ((i+1)*sz)).length)).drop ((n-1)*sz+zc.length)).take ((n-1)*sz))=cs.take (i*sz)++cs.drop ((i+1)*sz):=by
 have h1:i*sz≤n*sz:=Nat.mul_le_mul_right _ (by omega);have h2:(i+1)*sz≤n*sz:=Nat.mul_le_mul_right _ (by omega);have h3:(i+1)*sz=i*sz+sz:=by rw [Nat.add_mul,Nat.one_mul]
 have h4:(n-1)*sz=n*sz-sz:=by rw [Nat.sub_mul,Nat.one_mul]
 have hl:(cs.take (i*sz)++cs.drop ((i+1)*sz)).length=(n-1)*sz:=by
  rw [List.length_append,List.length_take,List.length_drop];omega
 rw [List.append_assoc (List.take _ _) zc,List.take_append_of_le_length (by rw [List.length_take,List.length_append,hl];omega),List.take_take,Nat.min_self,List.take_append_of_le_length (by rw [hl];omega),List.take_of_length_le (by rw [hl];omega)]
end Go.Eng
namespace Go.Eng
open Go.Proofs Go.RowKit
set_option maxRecDepth 100000
theorem Z1s:Elem Tryz.prog 100 3 ((Zd .i64)).n 8 (Value.int IntKind.i64 0):=⟨Tryz.underlying100,by kernel_rfl,rfl,by decide⟩
theorem Zgf:Zzb Tryz.prog 100 3 ((Zd .i64)).n:=⟨fun _=>by kernel_rfl,fun _=>by kernel_rfl⟩
theorem Zbx:Tryz.prog.follows .mixedOrders=true:=by kernel_rfl
noncomputable def ZTm:FuncId×ConD:=(140,⟨3,.int .i64,fun l i j=>ZDe l i j⟩)
theorem Zwu:Zzg Tryz.prog ZTm.1 ZTm.2:=fun w v ob n cap cs l i0 j0 z hv hh hnv hA hn hi hj hz=>by
 have hz:ZDe (show List Int from l) i0 j0=some z:=hz
 obtain ⟨i,rfl,rfl,hin,rfl⟩:=ZJt hz
 have hA:((Zd .i64)).rels v cs (show List Int from l):=hA
 have hin:i<n:=by rw [hn];exact hin
 have hcs:cs.length=n*((Zd .i64)).n:=by rw [hn];exact ZOc hA
 refine ⟨fun _ _=>by kernel_rfl,?_⟩
 refine ZHr (K:=33) (args:=[.slice (mkA ob) n cap,.int .i64 (i:Int),.int .i64 ((i+1:Nat):Int)]) hv hh hnv Tryz.func140 rfl rfl zl fun fa hS=>?_
 obtain ⟨b,rfl⟩:=Z2c hS (j:=0) rfl (by omega)
 obtain ⟨_,cur,hg,hnc,hcx,hcu,htk⟩:=(hS.loc _ (List.mem_of_getElem? (i:=0) rfl)).1
 unfold maxLen at hcx
 refine sr ?_
 refine mw hS rfl fun fa hS=>?_
 refine oe ?_
 refine sr ?_
 refine mv hS rfl fun fa hS=>?_
 refine mv hS rfl fun fa hS=>?_
 refine mv hS rfl fun fa hS=>?_
 refine mv hS rfl fun fa hS=>?_
 refine ov hS rfl (ZJb hS rfl rfl Zgf) fun fa hS=>?_
 have h3 := @Zpo _ _ _ _ _ _ _ _ _ (some 13) 100 "" #[] none hS 100 3 ((Zd .i64)).n b n cap i (i + 1) n (.tmp 8) (.tmp 9) (.tmp 10) (.tmp 12) .i64 .i64 .i64 Zgf rfl rfl rfl rfl (by omega) (by omega) hnc
 obtain ⟨y3,h3⟩:=h3
 refine ov hS rfl h3 fun fa hS=>?_
 refine oe ?_
 refine wp_seq_k fun N1 hN1=>?_
 refine sr ?_
 refine mv hS rfl fun fa hS=>?_
 refine mv hS rfl fun fa hS=>?_
 refine ov hS rfl (ZA hS rfl rfl Znh) fun fa hS=>?_
 refine oe ?_
 refine Zza hS rfl (by simp only [beq_eq_false_iff_ne,ne_eq];omega) ?_
 refine wp_skip ?_
 refine Zp (hN1 _ _ ?_)
 refine sr ?_
 refine mv hS rfl fun fa hS=>?_
 refine ov hS rfl (ZJb hS rfl rfl Zgf) fun fa hS=>?_
 refine mw hS rfl fun fa hS=>?_
 refine oe ?_
 refine wp_seq_k fun N2 hN2=>?_
 refine Zrg (fl:=#[true,true,true,true,true,true,false,false]) Zbx (by kernel_rfl) hS ?_
 intro ops hops hF wo hS
 refine rf hops hF 0 rfl (by kernel_rfl) rfl hS (ZD hS rfl) fun fa hS=>?_
 refine rf hops hF 1 rfl (by kernel_rfl) rfl hS (ZD hS rfl) fun fa hS=>?_
 refine rf hops hF 2 rfl (by kernel_rfl) rfl hS (Zwm hS Zgf rfl rfl (by omega) (by omega)) fun fa hS=>?_
 refine rf hops hF 3 rfl (by kernel_rfl) rfl hS (ZD hS rfl) fun fa hS=>?_
 refine rf hops hF 4 rfl (by kernel_rfl) rfl hS (ZD hS rfl) fun fa hS=>?_
 obtain ⟨ad,had,hsrc⟩:∃ ad:Addr,(if cap=i+1 then mkA (some b) else (mkA (some b)).map (·.add ((i+1)*((Zd .i64)).n)))=some ad∧∀ j u,(cs.drop ((i+1)*((Zd .i64)).n))[j]? = some u→wo.cell? (ad.add j)=some u:=by
  by_cases h:cap=i+1
  ·refine ⟨⟨b,0,none⟩,by rw [if_pos h];rfl,fun j u hu=>?_⟩;have:cs.drop ((i+1)*((Zd .i64)).n)=[]:=List.drop_eq_nil_of_le (by rw [hcs];exact Nat.mul_le_mul_right _ (by omega));rw [this] at hu;simp at hu
  ·refine ⟨(⟨b,0,none⟩:Addr).add ((i+1)*((Zd .i64)).n),by rw [if_neg h];rfl,fun j u hu=>?_⟩;have:=Zih hS (j:=0) rfl ((i+1)*((Zd .i64)).n+j) u (by rw [List.getElem?_drop] at hu;exact hu);rw [show ((⟨b,0,none⟩:Addr).add ((i+1)*((Zd .i64)).n)).add j=(⟨b,0,none⟩:Addr).add ((i+1)*((Zd .i64)).n+j) by simp only [Zga,Nat.add_assoc]];exact this
 refine rf hops hF 5 rfl (by kernel_rfl) rfl hS (ZUp hS Zgf rfl rfl (by omega)) fun fa hS=>?_;rw [had] at hS;have hdl:(cs.drop ((i+1)*((Zd .i64)).n)).length=(n-(i+1))*((Zd .i64)).n:=by rw [List.length_drop,hcs,Nat.sub_mul]
 obtain ⟨wo',hr,hS'⟩:=Zmp (t:=100) (ty:=100) Z1s hS (i:=0) rfl (q:=i) (m:=n-(i+1)) (c:=cap-(i+1)) (ad:=ad) (news:=cs.drop ((i+1)*((Zd .i64)).n)) hdl hsrc (by rw [List.all_eq_true];intro y hy;exact List.all_eq_true.1 (ZWg hA) y (List.mem_of_mem_drop hy)) (by omega);rw [show i+(n-(i+1))=n-1 by omega] at hr;refine Zue hops hF 6 (by kernel_rfl) ?_;refine ZJl [2,5,0,1,3,4] [] hops rfl (by kernel_rfl) wn rfl zl (ZTr hS rfl rfl hr) hS' fun fa hS=>?_;refine ⟨Z7b,?_⟩;refine Zue hops hF 7 (by kernel_rfl) ?_;refine nv [0,1,2,3,4,5,6] [] hops rfl (by kernel_rfl) rfl hS (Zed hS rfl) fun fa hS=>?_;refine ⟨Z7b,?_⟩;refine ZCj hops hF (by kernel_rfl) ?_;refine Zp (hN2 _ _ ?_);refine sr ?_;refine mv hS rfl fun fa hS=>?_;refine mv hS rfl fun fa hS=>?_;refine ov hS rfl (ZJb hS rfl rfl Zgf) fun fa hS=>?_;refine mv hS rfl fun fa hS=>?_;refine ov hS rfl (Zor hS Zgf rfl rfl rfl (by omega) (by omega) (by omega)) fun fa hS=>?_;obtain ⟨wo2,zc,hzl,hr,hS'⟩:=Zer (t:=100) (ty:=100) Z1s hS (i:=0) rfl (p:=n-1) (c:=cap-(n-1)) (by omega) (List.all_eq_true.1 (by kernel_rfl));have hn1:n-(n-1)=1:=by omega
 rw [hn1] at hS hS';refine Zms wn rfl (ZHo hS rfl (hr _)) ?_;refine oe ?_;have hS:=hS'.narrow (i:=0) rfl (m:=n-1) (by omega);refine sr ?_;refine mv hS rfl fun fa hS=>?_;refine mw hS rfl fun fa hS=>?_;refine oe ?_;refine wp_ret ?_;refine Zxr hS (i:=0) rfl (ZNc rfl (ZOa hS rfl)) ?_ (show n-1=(List.take i l++List.drop (i+1) l).length by rw [List.length_append,List.length_take,List.length_drop,← hn];omega);rw [Zfr hcs hin hzl];exact ZKb (ZEf i (ZK hS.vst.le hA)) (Z2e (i+1) (ZK hS.vst.le hA))
set_option maxRecDepth 100000
theorem Z0o:Elem Tryz.prog 31 59 (ZY).n 56 (Value.agg #[Value.bool false,Value.slice none 0 0,Value.slice none 0 0]):=⟨Tryz.underlying31,by kernel_rfl,rfl,by decide⟩
theorem ZWf:Zzb Tryz.prog 31 59 (ZY).n:=⟨fun _=>by kernel_rfl,fun _=>by kernel_rfl⟩
theorem ZSu:Tryz.prog.follows .mixedOrders=true:=by kernel_rfl
noncomputable def Z6m:FuncId×ConD:=(141,⟨59,.leaf 3,fun l i j=>ZDe l i j⟩)
theorem Z4u:Zzg Tryz.prog Z6m.1 Z6m.2:=fun w v ob n cap cs l i0 j0 z hv hh hnv hA hn hi hj hz=>by
 have hz:ZDe (show List Rat from l) i0 j0=some z:=hz
 obtain ⟨i,rfl,rfl,hin,rfl⟩:=ZJt hz
 have hA:(ZY).rels v cs (show List Rat from l):=hA
 have hin:i<n:=by rw [hn];exact hin
 have hcs:cs.length=n*(ZY).n:=by rw [hn];exact ZOc hA
 refine ⟨fun _ _=>by kernel_rfl,?_⟩
 refine ZHr (K:=33) (args:=[.slice (mkA ob) n cap,.int .i64 (i:Int),.int .i64 ((i+1:Nat):Int)]) hv hh hnv Tryz.func141 rfl rfl zl fun fa hS=>?_
 obtain ⟨b,rfl⟩:=Z2c hS (j:=0) rfl (by omega)
 obtain ⟨_,cur,hg,hnc,hcx,hcu,htk⟩:=(hS.loc _ (List.mem_of_getElem? (i:=0) rfl)).1
 unfold maxLen at hcx
 refine sr ?_
 refine mw hS rfl fun fa hS=>?_
 refine oe ?_
 refine sr ?_
 refine mv hS rfl fun fa hS=>?_
 refine mv hS rfl fun fa hS=>?_
 refine mv hS rfl fun fa hS=>?_
 refine mv hS rfl fun fa hS=>?_
 refine ov hS rfl (ZJb hS rfl rfl ZWf) fun fa hS=>?_
 have h3 := @Zpo _ _ _ _ _ _ _ _ _ (some 13) 31 "" #[] none hS 31 59 (ZY).n b n cap i (i + 1) n (.tmp 8) (.tmp 9) (.tmp 10) (.tmp 12) .i64 .i64 .i64 ZWf rfl rfl rfl rfl (by omega) (by omega) hnc
 obtain ⟨y3,h3⟩:=h3
 refine ov hS rfl h3 fun fa hS=>?_
 refine oe ?_
 refine wp_seq_k fun N1 hN1=>?_
 refine sr ?_
 refine mv hS rfl fun fa hS=>?_
 refine mv hS rfl fun fa hS=>?_
 refine ov hS rfl (ZA hS rfl rfl Znh) fun fa hS=>?_
 refine oe ?_
 refine Zza hS rfl (by simp only [beq_eq_false_iff_ne,ne_eq];omega) ?_
 refine wp_skip ?_
 refine Zp (hN1 _ _ ?_)
 refine sr ?_
 refine mv hS rfl fun fa hS=>?_
 refine ov hS rfl (ZJb hS rfl rfl ZWf) fun fa hS=>?_
 refine mw hS rfl fun fa hS=>?_
 refine oe ?_
 refine wp_seq_k fun N2 hN2=>?_
 refine Zrg (fl:=#[true,true,true,true,true,true,false,false]) ZSu (by kernel_rfl) hS ?_
 intro ops hops hF wo hS
 refine rf hops hF 0 rfl (by kernel_rfl) rfl hS (ZD hS rfl) fun fa hS=>?_
 refine rf hops hF 1 rfl (by kernel_rfl) rfl hS (ZD hS rfl) fun fa hS=>?_
 refine rf hops hF 2 rfl (by kernel_rfl) rfl hS (Zwm hS ZWf rfl rfl (by omega) (by omega)) fun fa hS=>?_
 refine rf hops hF 3 rfl (by kernel_rfl) rfl hS (ZD hS rfl) fun fa hS=>?_
 refine rf hops hF 4 rfl (by kernel_rfl) rfl hS (ZD hS rfl) fun fa hS=>?_
 obtain ⟨ad,had,hsrc⟩:∃ ad:Addr,(if cap=i+1 then mkA (some b) else (mkA (some b)).map (·.add ((i+1)*(ZY).n)))=some ad∧∀ j u,(cs.drop ((i+1)*(ZY).n))[j]? = some u→wo.cell? (ad.add j)=some u:=by
  by_cases h:cap=i+1
  ·refine ⟨⟨b,0,none⟩,by rw [if_pos h];rfl,fun j u hu=>?_⟩;have:cs.drop ((i+1)*(ZY).n)=[]:=List.drop_eq_nil_of_le (by rw [hcs];exact Nat.mul_le_mul_right _ (by omega));rw [this] at hu;simp at hu
  ·refine ⟨(⟨b,0,none⟩:Addr).add ((i+1)*(ZY).n),by rw [if_neg h];rfl,fun j u hu=>?_⟩;have:=Zih hS (j:=0) rfl ((i+1)*(ZY).n+j) u (by rw [List.getElem?_drop] at hu;exact hu);rw [show ((⟨b,0,none⟩:Addr).add ((i+1)*(ZY).n)).add j=(⟨b,0,none⟩:Addr).add ((i+1)*(ZY).n+j) by simp only [Zga,Nat.add_assoc]];exact this
 refine rf hops hF 5 rfl (by kernel_rfl) rfl hS (ZUp hS ZWf rfl rfl (by omega)) fun fa hS=>?_;rw [had] at hS;have hdl:(cs.drop ((i+1)*(ZY).n)).length=(n-(i+1))*(ZY).n:=by rw [List.length_drop,hcs,Nat.sub_mul]
 obtain ⟨wo',hr,hS'⟩:=Zmp (t:=31) (ty:=31) Z0o hS (i:=0) rfl (q:=i) (m:=n-(i+1)) (c:=cap-(i+1)) (ad:=ad) (news:=cs.drop ((i+1)*(ZY).n)) hdl hsrc (by rw [List.all_eq_true];intro y hy;exact List.all_eq_true.1 (ZWg hA) y (List.mem_of_mem_drop hy)) (by omega);rw [show i+(n-(i+1))=n-1 by omega] at hr;refine Zue hops hF 6 (by kernel_rfl) ?_;refine ZJl [2,5,0,1,3,4] [] hops rfl (by kernel_rfl) wn rfl zl (ZTr hS rfl rfl hr) hS' fun fa hS=>?_;refine ⟨Z7b,?_⟩;refine Zue hops hF 7 (by kernel_rfl) ?_;refine nv [0,1,2,3,4,5,6] [] hops rfl (by kernel_rfl) rfl hS (Zed hS rfl) fun fa hS=>?_;refine ⟨Z7b,?_⟩;refine ZCj hops hF (by kernel_rfl) ?_;refine Zp (hN2 _ _ ?_);refine sr ?_;refine mv hS rfl fun fa hS=>?_;refine mv hS rfl fun fa hS=>?_;refine ov hS rfl (ZJb hS rfl rfl ZWf) fun fa hS=>?_;refine mv hS rfl fun fa hS=>?_;refine ov hS rfl (Zor hS ZWf rfl rfl rfl (by omega) (by omega) (by omega)) fun fa hS=>?_;obtain ⟨wo2,zc,hzl,hr,hS'⟩:=Zer (t:=31) (ty:=31) Z0o hS (i:=0) rfl (p:=n-1) (c:=cap-(n-1)) (by omega) (List.all_eq_true.1 (by kernel_rfl));have hn1:n-(n-1)=1:=by omega
 rw [hn1] at hS hS';refine Zms wn rfl (ZHo hS rfl (hr _)) ?_;refine oe ?_;have hS:=hS'.narrow (i:=0) rfl (m:=n-1) (by omega);refine sr ?_;refine mv hS rfl fun fa hS=>?_;refine mw hS rfl fun fa hS=>?_;refine oe ?_;refine wp_ret ?_;refine Zxr hS (i:=0) rfl (ZNc rfl (ZOa hS rfl)) ?_ (show n-1=(List.take i l++List.drop (i+1) l).length by rw [List.length_append,List.length_take,List.length_drop,← hn];omega);rw [Zfr hcs hin hzl];exact ZKb (ZEf i (ZK hS.vst.le hA)) (Z2e (i+1) (ZK hS.vst.le hA))
end Go.Eng
set_option maxRecDepth 100000
set_option maxHeartbeats 4000000
namespace Go.Eng
open Go.Proofs Go.RowKit
noncomputable def Zwr:FuncId×ConB:=(109,⟨176,(.agg (.cons (.mat 31 59 (.leaf 3)) (.cons (.own 59 (.leaf 3)) (.cons (.own 59 (.leaf 3)) (.cons (.dat (.leaf 3)) (.cons (.own 3 (.int .i64)) (.one (.own 3 (.int .i64))))))))),[.pair (.slice (.slice (.leaf 3))) (.pair (.slice (.leaf 3)) (.slice (.leaf 3)))],[.slice (.leaf 3),.bool],fun z x=>ZJs z x⟩)
theorem Zex : KB Zwr := ZOg (C := cf1 [Zng, ZAd, Ztf, ZAi, ZRf, ZBd, ZQe] [100182] [Zlf] [((59, "Add"), 203), ((59, "Cmp"), 204), ((59, "Mul"), 206), ((59, "Sign"), 211), ((59, "Sub"), 212), ((59, "Zero"), 25)] [] [ZSm, Zlp, ZYl] [ZTm, Z6m]) (.n (.n (.n (.two (.n (.f (.l [0, 3, 6, 7, 8, 34, 35] [] [.s 9 (.dat (.int .i64)), .s 36 (.dat (.int .i64))] 0 [0, 3, 6, 7, 8] [] [.s 9 (.dat (.int .i64))] (.f (.n (.n (.f (.f (.n (.two (.j [0, 3, 6, 7, 8, 9, 10, 34, 35, 36] [] [.s 61 (.dat .bool)] .no) (.j [0, 3, 6, 7, 8, 34, 35, 36] [] [.s 9 (.dat (.int .i64))] .no))))))))))) (.n (.two (.n (.f (.l [0, 3, 6, 7, 8, 9, 70] [] [.s 71 (.dat (.int .i64)), .l (.sl 69) (.mat 31 59 (.leaf 3))] 2 [0, 3, 6, 7, 8, 9] [] [.l (.sl 69) (.mat 31 59 (.leaf 3))] .no))) (.n (.n (.n (.n (.n (.two (.n (.n (.j [0, 3, 8] [.fld (.sl 0) 0, .fld (.sl 0) 1, .fld (.sl 0) 2, .fld (.sl 0) 6, .fld (.sl 0) 7] [.l (.sl 0) (.box 176 (.agg (.cons (.mat 31 59 (.leaf 3)) (.cons (.own 59 (.leaf 3)) (.cons (.own 59 (.leaf 3)) (.cons (.dat (.leaf 3)) (.cons (.own 3 (.int .i64)) (.one (.own 3 (.int .i64))))))))))] .no))) (.n (.n (.two (.n (.f (.l [0, 3, 14, 167] [] [.s 168 (.dat (.int .i64)), .l (.sl 166) (.mat 31 59 (.leaf 3))] 4 [0, 3] [] [.l (.sl 166) (.mat 31 59 (.leaf 3))] .no))) (.n (.f (.n (.f (.l [0, 203, 204] [.fld (.sl 0) 0, .fld (.sl 0) 1, .fld (.sl 0) 6, .fld (.sl 0) 7, .fld (.sl 0) 2] [.s 205 (.dat (.int .i64)), .l (.sl 0) (.box 176 (.agg (.cons (.mat 31 59 (.leaf 3)) (.cons (.own 59 (.leaf 3)) (.cons (.own 59 (.leaf 3)) (.cons (.dat (.leaf 3)) (.cons (.own 3 (.int .i64)) (.one (.own 3 (.int .i64))))))))))] 6 [] [.fld (.sl 0) 0, .fld (.sl 0) 1, .fld (.sl 0) 6, .fld (.sl 0) 7, .fld (.sl 0) 2] [.l (.sl 0) (.box 176 (.agg (.cons (.mat 31 59 (.leaf 3)) (.cons (.own 59 (.leaf 3)) (.cons (.own 59 (.leaf 3)) (.cons (.dat (.leaf 3)) (.cons (.own 3 (.int .i64)) (.one (.own 3 (.int .i64))))))))))] (.f (.n (.n (.f (.j [0, 203, 204, 205] [.fld (.sl 0) 0, .fld (.sl 0) 1, .fld (.sl 0) 2, .fld (.sl 0) 6, .fld (.sl 0) 7] [.l (.sl 0) (.box 176 (.agg (.cons (.mat 31 59 (.leaf 3)) (.cons (.own 59 (.leaf 3)) (.cons (.own 59 (.leaf 3)) (.cons (.dat (.leaf 3)) (.cons (.own 3 (.int .i64)) (.one (.own 3 (.int .i64))))))))))] (.f (.n (.n (.n (.n (.n (.f (.l [0, 17, 203, 204, 205, 265, 266] [] [.s 267 (.dat (.int .i64)), .l (.fld (.sl 0) 2) (.own 59 (.leaf 3))] 8 [0, 203, 204, 205] [] [.l (.fld (.sl 0) 2) (.own 59 (.leaf 3))] .no))))))))))))))))))))))))))))))))) Tryz.func109 [(53, Tryz.f53, .no), (116, Tryz.f116, .r [] [] [.s 1000 (.dat (.int .i64))] (.n (.f (.n (.f (.cut ⟨⟨[0, 1, 7], [], [.s 8 (.dat (.int .i64))]⟩, [(.exit 0, ⟨[], [], []⟩), (.ret, ⟨[], [], [.s 1000 (.dat (.int .i64))]⟩)]⟩ .no)))))), (126, Tryz.f126, .r [] [] [.s 1000 (.dat (.int .i64))] (.n (.f (.n (.f (.cut ⟨⟨[0, 1, 7], [], [.s 8 (.dat (.int .i64))]⟩, [(.exit 0, ⟨[], [], []⟩), (.ret, ⟨[], [], [.s 1000 (.dat (.int .i64))]⟩)]⟩ .no)))))), (139, Tryz.f139, .no)] (fun _ _ => by kernel_rfl) ⟨ZTi, ZLd, Zch, ZCk, ZLg, ZMd, Zjf, tr⟩ ⟨ZXi, tr⟩ ⟨Zxi, ZZi, Zvh, ZOe, ZFg, Ztk, tr⟩ ⟨⟨Tryz.func53, fun _ _ => by kernel_rfl⟩, ⟨Tryz.func116, fun _ _ => by kernel_rfl⟩, ⟨Tryz.func126, fun _ _ => by kernel_rfl⟩, ⟨Tryz.func139, fun _ _ => by kernel_rfl⟩, tr⟩ tr ⟨Zcq, Zgu, Zhp, tr⟩ ⟨Zwu, Z4u, tr⟩
end Go.Eng
set_option maxRecDepth 100000
set_option maxHeartbeats 4000000
namespace Go.Eng
open Go.Proofs Go.RowKit
noncomputable def ZTq:FuncId×Con:=(77,⟨[.pair (.slice (.slice (.leaf 3))) (.pair (.slice (.leaf 3)) (.slice (.leaf 3)))],[.pair (.int .i64) (.pair (.leaf 3) (.pair (.slice (.leaf 3)) (.pair (.slice (.leaf 3)) (.slice (.leaf 3)))))],fun p=>ZNp p⟩)
theorem ZKu : KQ ZTq := Zh (Zt (C := cf1 [ZAd, ZTt, Zmr, ZCe] [] [Z7g, Zlf] [((59, "Neg"), 208)] [Zoo] [Zwr, ZSm] []) (.n (.n (.n (.n (.n (.two (.j [2, 3, 4, 6] [] [.s 5 (.dat (.ptr (.pair (.slice (.slice (.leaf 3))) (.pair (.slice (.leaf 3)) (.pair (.slice (.leaf 3)) (.pair (.leaf 3) (.pair (.slice (.int .i64)) (.slice (.int .i64))))))))), .s 9 (.dat (.int .i64))] .no) (.n (.n (.two (.n (.n (.j [2, 3, 5, 6, 9, 10] [] [.l (.sl 10) (.own 59 (.leaf 3))] .no))) (.f (.n (.f (.l [2, 3, 5, 6, 9, 10, 69, 70] [] [.s 71 (.dat (.int .i64)), .l (.sl 10) (.own 59 (.leaf 3))] 0 [2, 3, 5, 6, 10] [] [.l (.sl 10) (.own 59 (.leaf 3))] (.f (.n (.n (.f (.f (.n (.n (.j [2, 3, 5, 6, 9, 10, 69, 70, 71] [] [.l (.sl 10) (.own 59 (.leaf 3))] .no))))))))))))))))))))) Tryz.func77 [(53, Tryz.f53, .no), (108, Tryz.f108, .n (.n (.two (.n (.f (.l [1, 3, 20] [.fld (.sl 3) 0, .fld (.sl 3) 1, .fld (.sl 3) 2] [.s 21 (.dat (.int .i64)), .l (.sl 3) (.box 176 (.agg (.cons (.mat 31 59 (.leaf 3)) (.cons (.own 59 (.leaf 3)) (.cons (.own 59 (.leaf 3)) (.cons (.dat (.leaf 3)) (.cons (.own 3 (.int .i64)) (.one (.own 3 (.int .i64))))))))))] 0 [1, 3] [.fld (.sl 3) 0, .fld (.sl 3) 1, .fld (.sl 3) 2] [.l (.sl 3) (.box 176 (.agg (.cons (.mat 31 59 (.leaf 3)) (.cons (.own 59 (.leaf 3)) (.cons (.own 59 (.leaf 3)) (.cons (.dat (.leaf 3)) (.cons (.own 3 (.int .i64)) (.one (.own 3 (.int .i64))))))))))] .no))) (.f (.n (.f (.l [1, 3, 37] [.fld (.sl 3) 0, .fld (.sl 3) 1, .fld (.sl 3) 2, .fld (.sl 3) 6, .fld (.sl 3) 7] [.s 38 (.dat (.int .i64)), .l (.sl 3) (.box 176 (.agg (.cons (.mat 31 59 (.leaf 3)) (.cons (.own 59 (.leaf 3)) (.cons (.own 59 (.leaf 3)) (.cons (.dat (.leaf 3)) (.cons (.own 3 (.int .i64)) (.one (.own 3 (.int .i64))))))))))] 2 [3] [.fld (.sl 3) 0, .fld (.sl 3) 1, .fld (.sl 3) 2, .fld (.sl 3) 6, .fld (.sl 3) 7] [.l (.sl 3) (.box 176 (.agg (.cons (.mat 31 59 (.leaf 3)) (.cons (.own 59 (.leaf 3)) (.cons (.own 59 (.leaf 3)) (.cons (.dat (.leaf 3)) (.cons (.own 3 (.int .i64)) (.one (.own 3 (.int .i64))))))))))] .no)))))))] (fun _ => by kernel_rfl) ⟨ZLd, ZCx, ZYu, Zmf, tr⟩ ⟨ZNk, ZXi, tr⟩ ⟨Zkg, tr⟩ ⟨⟨Tryz.func53, fun _ _ => by kernel_rfl⟩, ⟨Tryz.func108, fun _ _ => by kernel_rfl⟩, tr⟩ ⟨Zew, tr⟩ ⟨Zex, Zcq, tr⟩)
end Go.Eng
set_option maxRecDepth 100000
set_option maxHeartbeats 4000000
namespace Go.Eng
open Go.Proofs Go.RowKit
noncomputable def ZMo:FuncId×Con:=(32,⟨[.pair (.slice (.slice (.leaf 3))) (.pair (.slice (.leaf 3)) (.slice (.leaf 3)))],[.pair (.int .i64) (.pair (.leaf 3) (.pair (.slice (.leaf 3)) (.pair (.slice (.leaf 3)) (.slice (.leaf 3))))),.int .i64],fun p=>Zwt p⟩)
theorem Z9y:KQ ZMo:=Zh (Zt (C:=cf0 [Zfm,ZTq] [] [] []) .no Tryz.func32 [] (fun _=>by kernel_rfl) ⟨Zqs,ZKu,tr⟩)
end Go.Eng
set_option maxRecDepth 100000
set_option maxHeartbeats 4000000
namespace Go.Eng
open Go.Proofs Go.RowKit
noncomputable def Zaf:FuncId×Con:=(66,⟨[.slice (.slice (.leaf 3))],[.int .i64],fun p=>Zoc p⟩)
theorem ZGg:KQ Zaf:=Zh (Zt (C:=cf0 [] [] [] []) .no Tryz.func66 [] (fun _=>by kernel_rfl))
end Go.Eng
set_option maxRecDepth 100000
set_option maxHeartbeats 4000000
namespace Go.Eng
open Go.Proofs Go.RowKit
noncomputable def Zik:FuncId×Con:=(84,⟨[.slice (.slice (.leaf 3))],[.bool],fun p=>ZLf p⟩)
theorem Zio:KQ Zik:=Zh (Zt (C:=cf0 [Zaf] [] [] []) (.n (.n (.f (.j [] [] [.s 2 (.dat .bool)] .no)))) Tryz.func84 [(78,Tryz.f78,.no),(113,Tryz.f113,.r [] [] [.s 1000 (.dat (.int .i64))] (.n (.f (.n (.f (.cut ⟨⟨[0,1,7],[],[.s 8 (.dat (.int .i64))]⟩,[(.exit 0,⟨[],[],[]⟩),(.ret,⟨[],[],[.s 1000 (.dat (.int .i64))]⟩)]⟩ .no)))))),(115,Tryz.f115,.no)] (fun _=>by kernel_rfl) ⟨ZGg,tr⟩ tr tr ⟨⟨Tryz.func78,fun _ _=>by kernel_rfl⟩,⟨Tryz.func113,fun _ _=>by kernel_rfl⟩,⟨Tryz.func115,fun _ _=>by kernel_rfl⟩,tr⟩)
end Go.Eng
set_option maxRecDepth 100000
set_option maxHeartbeats 4000000
namespace Go.Eng
open Go.Proofs Go.RowKit
noncomputable def Zpm:FuncId×Con:=(85,⟨[.slice (.slice (.leaf 3))],[.slice (.slice (.leaf 3)),.slice (.int .i64),.leaf 3],fun p=>Zrl p⟩)
theorem Zhq : KQ Zpm := Zh (Zt (C := cf0 [Zng, ZAd, ZNj, ZRf, ZCe, ZQe] [8] [Z7g] [((59, "Div"), 205), ((59, "Mul"), 206), ((59, "Neg"), 208), ((59, "Sub"), 212), ((59, "Zero"), 25)]) (.n (.n (.n (.n (.f (.n (.f (.l [0, 4, 6, 19] [] [.s 5 (.own 3 (.int .i64)), .s 20 (.dat (.int .i64)), .l (.sl 0) (.mat 31 59 (.leaf 3)), .l (.sl 6) (.box 59 (.dat (.leaf 3)))] 0 [0, 4, 6] [] [.s 5 (.own 3 (.int .i64)), .l (.sl 0) (.mat 31 59 (.leaf 3)), .l (.sl 6) (.box 59 (.dat (.leaf 3)))] (.f (.n (.n (.f (.j [0, 4, 6, 19, 20] [] [.s 5 (.own 3 (.int .i64)), .l (.sl 0) (.mat 31 59 (.leaf 3)), .l (.sl 6) (.box 59 (.dat (.leaf 3)))] (.f (.n (.n (.n (.two (.f (.l [0, 4, 5, 6, 7, 8, 19, 20] [] [.s 9 (.dat (.int .i64))] 2 [0, 4, 5, 6, 7, 8, 19, 20] [] [.s 9 (.dat (.int .i64))] (.f (.f (.f (.j [0, 4, 5, 6, 7, 8, 9, 19, 20] [] [.s 40 (.dat .bool)] .no)))))) (.n (.two (.n (.j [0, 4, 5, 6, 7, 8, 19, 20] [] [.l (.sl 0) (.mat 31 59 (.leaf 3)), .l (.sl 6) (.box 59 (.dat (.leaf 3)))] .no)) (.n (.n (.two (.n (.f (.l [0, 4, 5, 6, 7, 8, 10, 19, 20, 83] [] [.s 84 (.dat (.int .i64)), .l (.sl 0) (.mat 31 59 (.leaf 3))] 4 [0, 4, 5, 6, 7, 8, 19, 20] [] [.l (.sl 0) (.mat 31 59 (.leaf 3))] .no))) (.f (.n (.f (.l [0, 4, 5, 6, 7, 8, 19, 20, 108] [] [.s 109 (.dat (.int .i64)), .l (.sl 0) (.mat 31 59 (.leaf 3))] 6 [0, 4, 5, 6, 7, 19, 20] [] [.l (.sl 0) (.mat 31 59 (.leaf 3))] (.f (.n (.n (.f (.j [0, 4, 5, 6, 7, 8, 19, 20, 108, 109] [] [.l (.sl 0) (.mat 31 59 (.leaf 3))] (.f (.n (.n (.two (.f (.j [0, 4, 5, 6, 7, 8, 12, 13, 19, 20, 108, 109] [] [.s 126 (.dat .bool)] .no)) (.n (.f (.l [0, 4, 5, 6, 7, 8, 12, 13, 19, 20, 108, 109, 131] [] [.s 132 (.dat (.int .i64)), .l (.sl 0) (.mat 31 59 (.leaf 3))] 8 [0, 4, 5, 6, 7, 8, 19, 20, 108, 109] [] [.l (.sl 0) (.mat 31 59 (.leaf 3))] .no))))))))))))))))))))))))))))))))))))))) Tryz.func85 [(66, Tryz.f66, .r [] [] [.s 1000 (.dat (.int .i64))] .no), (81, Tryz.f81, .n (.n (.f (.n (.f (.l [3, 9, 10] [] [.s 11 (.dat (.int .i64)), .l (.sl 3) (.mat 31 59 (.leaf 3))] 0 [3] [] [.l (.sl 3) (.mat 31 59 (.leaf 3))] .no))))))] (fun _ => by kernel_rfl) ⟨ZTi, ZLd, ZGl, ZLg, Zmf, Zjf, tr⟩ ⟨ZNk, tr⟩ ⟨Zyn, Zvh, Zkg, ZFg, Ztk, tr⟩ ⟨⟨Tryz.func66, fun _ _ => by kernel_rfl⟩, ⟨Tryz.func81, fun _ _ => by kernel_rfl⟩, tr⟩)
end Go.Eng
set_option maxRecDepth 100000
set_option maxHeartbeats 4000000
namespace Go.Eng
open Go.Proofs Go.RowKit
noncomputable def ZRs:FuncId×Con:=(39,⟨[.slice (.slice (.leaf 3))],[.slice (.slice (.leaf 3)),.slice (.int .i64),.int .i64],fun p=>ZQp p⟩)
theorem ZJw:KQ ZRs:=Zh (Zt (C:=cf0 [Zik,Zpm] [] [] []) .no Tryz.func39 [] (fun _=>by kernel_rfl) ⟨Zio,Zhq,tr⟩)
end Go.Eng
set_option maxRecDepth 100000
set_option maxHeartbeats 4000000
namespace Go.Eng
open Go.Proofs Go.RowKit
noncomputable def ZFq:FuncId×Con:=(116,⟨[.slice (.int .i64),.int .i64],[.int .i64],fun p=>Zos p.1 p.2⟩)
theorem Zqx:KQ ZFq:=Zh (Zt (C:=cf0 [] [] [] []) (.n (.f (.n (.cut ⟨⟨[],[],[]⟩,[(.norm,⟨[],[],[]⟩),(.ret,⟨[],[],[.s 1000 (.dat (.int .i64))]⟩)]⟩ (.f (.cut ⟨⟨[0,1,7],[],[.s 8 (.dat (.int .i64))]⟩,[(.ret,⟨[],[],[.s 1000 (.dat (.int .i64))]⟩),(.exit 0,⟨[],[],[]⟩)]⟩ .no)))))) Tryz.func116 [] (fun _=>by kernel_rfl))
end Go.Eng
set_option maxRecDepth 100000
set_option maxHeartbeats 4000000
namespace Go.Eng
open Go.Proofs Go.RowKit
noncomputable def Z8s:FuncId×Con:=(86,⟨[.slice (.int .i64),.int .i64],[.bool],fun p=>Ziq p.1 p.2⟩)
theorem Zaz:KQ Z8s:=Zh (Zt (C:=cf0 [ZFq] [] [] []) .no Tryz.func86 [] (fun _=>by kernel_rfl) ⟨Zqx,tr⟩)
end Go.Eng
set_option maxRecDepth 100000
set_option maxHeartbeats 4000000
namespace Go.Eng
open Go.Proofs Go.RowKit
noncomputable def Zxo:FuncId×Con:=(40,⟨[.slice (.slice (.leaf 3))],[.slice (.slice (.leaf 3)),.int .i64],fun p=>ZSr p⟩)
theorem Zyu : KQ Zxo := Zh (Zt (C := cf0 [Zaf, ZAd, Zik, Zpm, Z8s, ZCe] [] [Zlf] [((59, "Neg"), 208)]) (.n (.n (.n (.n (.f (.n (.f (.l [0, 4, 5, 22] [] [.s 7 (.own 31 (.slice (.leaf 3))), .s 23 (.dat (.int .i64))] 0 [] [] [.s 7 (.own 31 (.slice (.leaf 3)))] (.f (.n (.n (.f (.j [0, 4, 5, 22, 23] [] [.s 7 (.own 31 (.slice (.leaf 3)))] (.f (.n (.n (.n (.n (.f (.n (.f (.l [0, 4, 5, 7, 8, 9, 22, 23, 36, 37] [] [.s 38 (.dat (.int .i64)), .l (.sl 9) (.own 59 (.leaf 3))] 2 [0, 4, 5, 7, 9, 22, 23] [] [.l (.sl 9) (.own 59 (.leaf 3))] .no)))))))))))))))))))))) Tryz.func40 [(53, Tryz.f53, .no)] (fun _ => by kernel_rfl) ⟨ZGg, ZLd, Zio, Zhq, Zaz, Zmf, tr⟩ ⟨ZXi, tr⟩ ⟨Zkg, tr⟩ ⟨⟨Tryz.func53, fun _ _ => by kernel_rfl⟩, tr⟩)
end Go.Eng
namespace Go.Eng
open Go.Proofs Go.RowKit
theorem ZPv {r:World} {d:Zb} (hv:VIn d r) {D:List Value} {n:Int} (L:Rep.rel (Zd .u64) d D n) {z:(List UInt8)} (H:ZBj n=some z):Ret Tryz.prog 119 #[(Zd .u64).val D] r d (fun y v'=>∃ E,y=Z2a.val E∧Z2a.rel v' E z):=by
 obtain ⟨rfl,M⟩:=L;refine Zki (K:=20) (args:=[.int .u64 n]) hv Tryz.func119 rfl rfl zl fun f S=>?_;unfold ZBj at H;refine sr (mw S rfl fun f S=>oe (sr (Z6s S wn rfl zl (cs:=[.int .u8 0,.int .u8 0,.int .u8 0,.int .u8 0,.int .u8 0,.int .u8 0,.int .u8 0,.int .u8 0,.int .u8 0,.int .u8 0,.int .u8 0,.int .u8 0,.int .u8 0,.int .u8 0,.int .u8 0,.int .u8 0,.int .u8 0,.int .u8 0,.int .u8 0,.int .u8 0]) (ZUn k_zv227) fun s f w S=>?_)));have S:=S.boxOwn 1 20 rfl zl;have N:Rep.rels (Zd .u8) d [.int .u8 0,.int .u8 0,.int .u8 0,.int .u8 0,.int .u8 0,.int .u8 0,.int .u8 0,.int .u8 0,.int .u8 0,.int .u8 0,.int .u8 0,.int .u8 0,.int .u8 0,.int .u8 0,.int .u8 0,.int .u8 0,.int .u8 0,.int .u8 0,.int .u8 0,.int .u8 0] (List.replicate 20 (0:Int)):=ZJg (show Rep.rel (Zd .u8) _ [Value.int .u8 0] 0 from ⟨rfl,by decide⟩) 20;refine oe (sr (mw S rfl fun f S=>oe (Zy fun _ O=>?_)));obtain ⟨P,Q,R⟩:=Zda H;refine ZHc (fun f w=>∃ l m B t,(l,m)=P∧Zb.le d t∧St 20 r d [(3,.pointer (some ⟨s,0,none⟩)),(4,.int .i64 m)] [Loc.own (some s) 227 1 20 20 B] t f w∧Rep.rels (Zd .u8) t B l∧20=l.length∧inR .i64 m) (fun _ T=>?_) ?_
 ·have H:=Q;refine wp_block ?_;obtain ⟨ak,U,V⟩:=Zda H;refine Zme U (fun W f w=>∃ h o u b k,(h,o,u)=W∧Zb.le d k∧St 20 r d [(0,.int .u64 o),(3,.pointer (some ⟨s,0,none⟩)),(4,.int .i64 u)] [Loc.own (some s) 227 1 20 20 b] k f w∧Rep.rels (Zd .u8) k b h∧20=h.length∧inR .u64 o∧inR .i64 u) ⟨_,_,_,[.int .u8 0,.int .u8 0,.int .u8 0,.int .u8 0,.int .u8 0,.int .u8 0,.int .u8 0,.int .u8 0,.int .u8 0,.int .u8 0,.int .u8 0,.int .u8 0,.int .u8 0,.int .u8 0,.int .u8 0,.int .u8 0,.int .u8 0,.int .u8 0,.int .u8 0,.int .u8 0],_,rfl,(leR _),(S.fr' rfl),N,(List.length_replicate (n:=20) (a:=(0:Int))).symm,M,(by decide)⟩ ?_;rintro _ f w st ⟨h,o,u,b,k,hq,F,S,C,v,al,X⟩ H am Y Z;subst hq;refine Zy fun _ aa=>sr (mv S rfl fun f S=>ov S rfl (ZA S rfl rfl ZAf) fun f S=>oe ?_);rcases Zgb (decide ((0:Int)<o)) with p | p
  ·have H:=Zqb H p;refine Zlb S rfl p (wp_skip (Zp (aa _ _ (Zy fun _ ab=>wp_block (Zy fun _ ac=>bO H fun e G H=>ZP (mv S rfl fun f S=>ov S rfl (ZA S rfl rfl (ZIb G)) fun f S=>mw S rfl fun f S=>ZJ (Zp (ac _ _ (bO H fun g ad H=>?_)))))))));refine bO H fun an q H=>ZP (mv S rfl fun f S=>mv S rfl fun f S=>ov S rfl (ZA S rfl rfl (Z7s ad)) fun f S=>ov S rfl (ZA S rfl rfl Z0n) fun f S=>ov S rfl (Zhf S rfl (ZPw _)) fun f S=>?_);have I:=Zwa C (Zo q).2.1;obtain ⟨ao,ae⟩:∃ c,(List.take (Zd .u8).n (List.drop ((e).toNat*(Zd .u8).n) b))=c:=⟨_,rfl⟩;rw [ae] at I;obtain ⟨rfl,ap⟩:=I;refine ov S rfl (ZSo S ZSq rfl rfl (Zo q).1 (ltI v (Zo q).2.2.1)) fun f S=>?_;obtain ⟨w,af,S⟩:=Zvd S k_sz5 (off:=0+(e).toNat*1) (z:=.int .u8 (IntKind.u8.wrap (IntKind.u64.wrap ((48:Int)+g)))) (cs:=[.int .u8 (IntKind.u8.wrap (IntKind.u64.wrap ((48:Int)+g)))]) (ZZc rfl) rfl (i:=0) rfl (Zli S (j:=0) rfl (ltN v (Zo q).2.2.2)) (by first | rfl | simp [plain]);have ag:Rep.rels (Zd .u8) k (List.take (0+(e).toNat*1) b++[Value.int IntKind.u8 (IntKind.u8.wrap (IntKind.u64.wrap ((48:Int)+g)))]++List.drop (0+(e).toNat*1+1) b) (h.set (e).toNat (IntKind.u8.wrap (IntKind.u64.wrap ((48:Int)+g)))):=Z8g C (Zo q).2.2.2 (show Rep.rel (Zd .u8) k [.int .u8 (IntKind.u8.wrap (IntKind.u64.wrap ((48:Int)+g)))] _ from (Z1 (Z2b _ _))) rfl rfl
   have ah:20=(h.set (e).toNat (IntKind.u8.wrap (IntKind.u64.wrap ((48:Int)+g)))).length:=setN v;refine Z9i wn rfl (af rfl rfl) (ZJ (Zxd (Zp (ab _ _ (bO H fun aq J H=>ZP (mv S rfl fun f S=>ov S rfl (ZA S rfl rfl (Zxt J)) fun f S=>mw S rfl fun f S=>ZJ ?_))))));obtain rfl:=ZG H;refine Y _ rfl _ _ ⟨_,_,_,(List.take (0+(e).toNat*1) b++[Value.int IntKind.u8 (IntKind.u8.wrap (IntKind.u64.wrap ((48:Int)+g)))]++List.drop (0+(e).toNat*1+1) b),_,rfl,F,(S.fr' rfl),ag,ah,(Z4o J),(Zvb G).2⟩
  have H:=Zob H p;refine Zza S rfl p (wp_exit (Z1a ?_));obtain rfl:=ZG H;have hq:=Z _ rfl;subst hq;have H:=V;refine Z1a (Zod ?_);obtain rfl:=ZG H;refine Zp (T _ _ ⟨_,_,b,_,rfl,(leT (leR _) F),(S.fr' rfl),C,v,X⟩)
 rintro f w ⟨l,m,B,t,hq,ar,S,ai,x,au⟩;subst hq;have H:=R;refine Zp (O _ _ (Zy fun _ aj=>bO H fun av A H=>ZP (mv S rfl fun f S=>ov S rfl (Zhx S ZSq rfl rfl (Zdf A).1 (by have:=(Zdf A).2.1;have:=x;omega)) fun f S=>ov S rfl (ZQu S (j:=0) rfl ai x (by have:=(Zdf A).2.1;have:=(Zdf A).1;have:=x;omega) rfl Tryz.underlying189 Tryz.underlying5 Tryz.underlying9) fun f S=>mw S rfl fun f S=>ZJ (Zp (aj _ _ (wp_ret ?_))))));obtain rfl:=ZG H;refine ZDf S (ZNc rfl (ZOa S rfl)) ⟨[.string (Zr ((ZEd (l.drop ((m).toNat)))))],rfl,(ZEh (by have:=x;simp only [ZCu,List.length_drop];unfold maxLen;omega))⟩
theorem Zxv {b:World} {a:Zb} (hv:VIn a b) {c:List Value} {n:Int} (d:Rep.rel (Zd .u64) a c n) {z:(List UInt8)} (hm:Zvg n=some z) :
  Ret Tryz.prog 119 #[(Zd .u64).val c] b a (fun y v'=>∃ e,y=Z2a.val e∧Z2a.rel v' e z) :=
 ZPv hv d (ZZx d.2 hm)
end Go.Eng
namespace Go.Proofs
open Go.Shelf
def Tryz.lays105_ren:Go.Shelf.Ren:=⟨fun | 105=>120 | 212=>127 | 99=>152 | 165=>153 | 166=>121 | 170=>154 | 169=>122 | 263=>159 | 264=>160 | 206=>172 | 240=>155 | 241=>173 | 276=>174 | 277=>179 | n=>n,fun | 9=>9 | 3=>3 | 4=>4 | 20=>20 | 0=>0 | 46=>200 | 109=>202 | 5=>5 | 72=>191 | 76=>194 | 51=>154 | 146=>233 | 53=>153 | 148=>224 | 70=>188 | 37=>189 | 75=>193 | 127=>230 | 164=>241 | 80=>106 | n=>n,fun | n=>n⟩
theorem Tryz.lays105:Go.Proofs.Lays.n105 Tryz.prog Tryz.lays105_ren:={
 mixed:=by kernel_rfl
 f99:=Tryz.func152.trans (congrArg some (by kernel_rfl))
 f105:=Tryz.func120.trans (congrArg some (by kernel_rfl))
 f165:=Tryz.func153.trans (congrArg some (by kernel_rfl))
 f166:=Tryz.func121.trans (congrArg some (by kernel_rfl))
 f169:=Tryz.func122.trans (congrArg some (by kernel_rfl))
 f170:=Tryz.func154.trans (congrArg some (by kernel_rfl))
 f206:=Tryz.func172.trans (congrArg some (by kernel_rfl))
 f212:=Tryz.func127.trans (congrArg some (by kernel_rfl))
 f240:=Tryz.func155.trans (congrArg some (by kernel_rfl))
 f241:=Tryz.func173.trans (congrArg some (by kernel_rfl))
 f263:=Tryz.func159.trans (congrArg some (by kernel_rfl))
 f264:=Tryz.func160.trans (congrArg some (by kernel_rfl))
 f276:=Tryz.func174.trans (congrArg some (by kernel_rfl))
 f277:=Tryz.func179.trans (congrArg some (by kernel_rfl))
 t0:=Tryz.underlying0
 a0:=Tryz.isAgg0
 z0:=Tryz.sizeOf0
 v0:=Tryz.zeroValue0
 t3:=Tryz.underlying3
 a3:=Tryz.isAgg3
 z3:=Tryz.sizeOf3
 v3:=Tryz.zeroValue3
 t4:=Tryz.underlying4
 a4:=Tryz.isAgg4
 z4:=Tryz.sizeOf4
 v4:=Tryz.zeroValue4
 t5:=Tryz.underlying5
 a5:=Tryz.isAgg5
 z5:=Tryz.sizeOf5
 v5:=Tryz.zeroValue5
 t9:=Tryz.underlying9
 a9:=Tryz.isAgg9
 z9:=Tryz.sizeOf9
 v9:=Tryz.zeroValue9
 t20:=Tryz.underlying20
 a20:=Tryz.isAgg20
 z20:=Tryz.sizeOf20
 v20:=Tryz.zeroValue20
 t37:=Tryz.underlying189
 a37:=Tryz.isAgg189
 z37:=Tryz.sizeOf189
 v37:=Tryz.zeroValue189
 t46:=Tryz.underlying200
 a46:=Tryz.isAgg200
 z46:=Tryz.sizeOf200
 v46:=Tryz.zeroValue200
 t51:=Tryz.underlying154
 a51:=Tryz.isAgg154
 z51:=Tryz.sizeOf154
 v51:=Tryz.zeroValue154
 t53:=Tryz.underlying153
 a53:=Tryz.isAgg153
 z53:=Tryz.sizeOf153
 v53:=Tryz.zeroValue153
 t70:=Tryz.underlying188
 a70:=Tryz.isAgg188
 z70:=Tryz.sizeOf188
 v70:=Tryz.zeroValue188
 t72:=Tryz.underlying191
 a72:=Tryz.isAgg191
 z72:=Tryz.sizeOf191
 v72:=Tryz.zeroValue191
 t75:=Tryz.underlying193
 a75:=Tryz.isAgg193
 z75:=Tryz.sizeOf193
 v75:=Tryz.zeroValue193
 t76:=Tryz.underlying194
 a76:=Tryz.isAgg194
 z76:=Tryz.sizeOf194
 v76:=Tryz.zeroValue194
 t109:=Tryz.underlying202
 a109:=Tryz.isAgg202
 z109:=Tryz.sizeOf202
 v109:=Tryz.zeroValue202
 t127:=Tryz.underlying230
 a127:=Tryz.isAgg230
 z127:=Tryz.sizeOf230
 v127:=Tryz.zeroValue230
 t146:=Tryz.underlying233
 a146:=Tryz.isAgg233
 z146:=Tryz.sizeOf233
 v146:=Tryz.zeroValue233
 t148:=Tryz.underlying224
 a148:=Tryz.isAgg224
 z148:=Tryz.sizeOf224
 v148:=Tryz.zeroValue224
 t164:=Tryz.underlying241
 a164:=Tryz.isAgg241
 z164:=Tryz.sizeOf241
 v164:=Tryz.zeroValue241 }
theorem Tryz.Builder_Extra_105:Builder.Extra Tryz.prog Tryz.lays105_ren:={
 sizeBuilder:=by kernel_rfl
 liesBuilder:=by kernel_rfl
 t5:=Tryz.underlying5
 a5:=Tryz.isAgg5
 z5:=Tryz.sizeOf5
 v5:=Tryz.zeroValue5
 infoByte:=by kernel_rfl
 cellsByte:=by kernel_rfl
 sizeByte:=by kernel_rfl
 neB5:=by decide }
end Go.Proofs
namespace Go.Eng
open Go.Proofs Go.RowKit Go.Shelf
theorem writes:Zro Tryz.prog 121 191 5:=fun B b bs s w h hl hB=>Any.Builder_WriteString { Tryz.lays105 with } Tryz.Builder_Extra_105 B b bs s w h hl hB
theorem tells:Tells Tryz.prog 122 191 5:=fun B b l w h hB=>Any.Builder_String_any { Tryz.lays105 with } Tryz.Builder_Extra_105 B b l w h hB
end Go.Eng
namespace Go.Eng
open Go.Proofs Go.RowKit
theorem Z5y (l:List UInt8) (c:Nat):Lib.repeatL l c=(List.replicate c l).flatten:=by
 induction c with
 | zero=>rfl
 | succ c ih=>simp [Lib.repeatL,List.replicate_succ,ih]
theorem Zdw {b:World} {a:Zb} (hv:VIn a b) {f:List Value} {s:List UInt8} (k:Rep.rel Z2a a f s) {g:List Value} {c:Int} (l:Rep.rel (Zd .i64) a g c) {z:List UInt8} (hm:Zig s c=some z) :
  Ret Tryz.prog 120 #[Z2a.val f,(Zd .i64).val g] b a (fun y v'=>∃ h,y=Z2a.val h∧Z2a.rel v' h z):=by
 obtain ⟨rfl,hs⟩:=k;obtain ⟨rfl,hc⟩:=l;unfold Zig at hm;split at hm
 ·rename_i hh
  cases hm
  obtain ⟨C,rfl⟩:=Int.eq_ofNat_of_zero_le hh.1;have hc:=ZSa.1 hc;have d:=hh.2;rw [Int.toNat_natCast] at d;have:=Any.strings_Repeat Tryz.lays105 Tryz.Builder_Extra_105 (Zr s) C b (by omega) (by rw [ZIc];exact d);refine Calls.mono this fun e w' ⟨i,j⟩=>?_;have m:(⟨(Lib.repeatL (Zr s).data.toList C).toArray⟩:ByteArray)=Zr (List.replicate C s).flatten:=by
   rw [Z5y];rfl
  rw [m] at i;exact ⟨_,a,i,j,VStep.ext hv j,[.string (Zr (List.replicate C s).flatten)],rfl,rfl,by simp only [Int.toNat_natCast];rw [List.length_flatten];simp;unfold maxLen;rw [Nat.mul_comm] at d;omega⟩
 ·cases hm
theorem text_w {e:World} {c:Zb} (hv:VIn c e) {c0:List Value} {a:Nat} (p0:Rep.rel Zs c c0 a) {z:(List UInt8)} (H:ZBi a=some z):Ret Tryz.prog 88 #[Zs.val c0] e c (fun y v'=>∃ r0,y=Z2a.val r0∧Z2a.rel v' r0 z):=by
 obtain ⟨q1,n2,k3,rfl⟩:=ZBa p0;refine Zki (K:=49) (args:=[.slice q1 n2 k3]) hv Tryz.func88 rfl rfl zl fun f S=>?_;unfold ZBi at H;refine sr (mw S rfl fun f S=>oe (sr ?_));have S:=S.nilLoc 9 1;refine ov S rfl (Zed S (y:=.slice (mkA none) 0 0) rfl) fun f S=>oe (Zy fun _ ar=>?_);obtain ⟨au,av,ax⟩:=Zda H;refine ZHc (fun f w=>∃ o F s G U I,o=au∧Zb.le c I∧St 49 e c [(3,.slice (mkA F) s G)] [Loc.own F 9 1 s G U] I f w∧Rep.rels Z2a I U o∧s=o.length) (fun _ ay=>?_) ?_
 ·have H:=av;refine wp_block ?_;obtain ⟨bt,az,aA⟩:=Zda H;refine Zme az (fun aB f w=>∃ J g L M N p h q k t,(J,g)=aB∧Zb.le c t∧St 49 e c [(0,.slice L M N),(3,.slice (mkA p) h q)] [Loc.own p 9 1 h q k] t f w∧Rep.rel Zs t [.slice L M N] J∧Rep.rels Z2a t k g∧h=g.length) ⟨_,_,_,_,_,none,0,0,[],_,rfl,(leR _),(S.fr' rfl),p0,ZDd,rfl⟩ ?_;rintro _ f w st ⟨J,g,L,M,N,p,h,q,k,t,hq,ac,S,ad,d,ae⟩ H bu aC aD;subst hq;refine Zy fun _ aE=>sr (mv S rfl fun f S=>ov S rfl (Z1b S (Z0a ad) rfl rfl Z7) fun f S=>ov S rfl (ZA S rfl rfl ZAf) fun f S=>oe ?_);rcases Zgb (decide ((0:Int)<(((Zc 18446744073709551616 J)).length:Int))) with u | u
  ·have H:=Zqb H u;refine Zlb S rfl u (wp_skip (Zp (aE _ _ (wp_block (Zy fun _ aF=>bO H fun O aG H=>ZP (mv S rfl fun f S=>opc S rfl (Zja S [.slice L M N,.int .u64 10000000000000000000] Zlr rfl rfl) (Zxq S.vin ad (show Rep.rel (Zd .u64) _ [.int .u64 10000000000000000000] (10000000000000000000:Int) from (Z1 (by decide))) aG) ?_))))));rintro _ bv f w af ⟨bw,bx,rfl,m,aH⟩ S;have d:=ZK af d;obtain ⟨aI,aJ,aK,rfl⟩:=ZBa m;obtain ⟨rfl,aL⟩:=aH;refine mv S rfl fun f S=>ov S rfl (Zra S rfl rfl) fun f S=>ov S rfl (Zra S rfl rfl) fun f S=>mw S rfl fun f S=>mw S rfl fun f S=>ZJ (Zp (aF _ _ (Zy fun _ aM=>bO H fun bz aN H=>ZP (mv S rfl fun f S=>opc S rfl (Zja S [.int .u64 (O.2)] k_en119 rfl rfl) (Zxv S.vin (show Rep.rel (Zd .u64) _ [.int .u64 (O.2)] O.2 from (Z1 aL)) aN) ?_))));rintro _ aO f w V ⟨bA,rfl,aP⟩ S;have d:=ZK V d;obtain ⟨rfl,aQ⟩:=aP;refine mw S rfl fun f S=>ZJ (Zp (aM _ _ (Zy fun _ aR=>sr (mv S rfl fun f S=>?_))));have m:=Zta V m;refine ov S rfl (Z1b S (Z0a m) rfl rfl Z7) fun f S=>ov S rfl (ZA S rfl rfl ZAf) fun f S=>oe ?_;obtain ⟨aS,aT,aU⟩:=Zda H;refine ZHc (fun f w=>∃ b P,b=aS∧Zb.le aO P∧St 49 e c [(3,.slice (mkA p) h q),(4,.slice aI aJ aK),(6,.string (Zr b))] [Loc.own p 9 1 h q k] P f w∧b.length≤maxLen) (fun _ ag=>?_) ?_
   ·have H:=aT;rcases Zgb (decide ((0:Int)<(((Zc 18446744073709551616 O.1)).length:Int))) with v | v
    ·have H:=Zqb H v;refine Zlb S rfl v (bO H fun W ah H=>bO H fun bB aV H=>bO H fun bC ai H=>ZP (mv S rfl fun f S=>ov S rfl (Zys S rfl rfl Tryz.underlying9) fun f S=>ov S rfl (ZA S rfl rfl (ZIb ah)) fun f S=>opc S rfl (Zja S [.string (Zr (([48]:List UInt8))),.int .i64 W] k_en120 rfl rfl) (Zdw S.vin (show Rep.rel Z2a _ [.string (Zr (([48]:List UInt8)))] (([48]:List UInt8)) from (ZEh zl)) (show Rep.rel (Zd .i64) _ [.int .i64 W] W from (Z1 (Zvb ah).2)) aV) ?_));rintro _ bD f w aj ⟨bE,rfl,aW⟩ S;have d:=ZK aj d;obtain ⟨rfl,bG⟩:=aW;refine mv S rfl fun f S=>ov S rfl (Zqj S rfl rfl (Ztp ai)) fun f S=>mw S rfl fun f S=>ZJ ?_;obtain rfl:=ZG H;refine Zp (ag _ _ ⟨_,_,rfl,(leT (leR _) aj),(S.fr' rfl),(Zmk ai)⟩)
    have H:=Zob H v;refine Zza S rfl v (wp_skip ?_);obtain rfl:=ZG H;refine Zp (ag _ _ ⟨_,_,rfl,(leR _),(S.fr' rfl),aQ⟩)
   rintro f w ⟨b,P,hq,X,S,aX⟩;subst hq;have H:=aU;have d:=ZK X d;refine Zp (aR _ _ (bO H fun bH aY H=>ZP (mv S rfl fun f S=>mv S rfl fun f S=>?_)));obtain ⟨bI,w,aZ,S⟩:=Ztg S (n:=1) (cs:=[.string (Zr b)]) (vals:=[(0,.string (Zr b))]) (sz:=1) rfl (by decide) (ZZs Zvs (x:=.string (Zr b)) (cs:=[.string (Zr b)]) rfl rfl (by decide));have Y:Rep.rels Z2a P [.string (Zr b)] [b]:=(Zkq (ZEh aX) ZDd);refine Zyc wn rfl zl (aZ rfl) S fun f S=>?_;have a0:=S;obtain ⟨ak,al,w,a1,S⟩:=Zzj (ty:=183) Zvs S (i:=1) (n':=(g++[b]).length) rfl (ZVd Y rfl) (Zih S (j:=0) rfl) (ZWg Y) (appN ae rfl) (ZQd aY) (by decide);have a2:=ZKb d Y;refine Zyc wn rfl zl (Zhe a0 rfl rfl a1) S fun f S=>mv S rfl fun f S=>mw S rfl fun f S=>mw S rfl fun f S=>ZJ (Zxd ?_);obtain rfl:=ZG H;have S:=S.reorder (ℓ':=[Loc.own ak 9 1 ((g++[b]).length) al ((k++[.string (Zr b)]))]) [1] rfl (by decide);have m:=Zta X m;refine aC _ rfl _ _ ⟨_,_,_,_,_,ak,(g++[b]).length,al,(k++[.string (Zr b)]),_,rfl,(leT (leT (leT ac af) V) X),(S.fr' rfl),m,a2,rfl⟩
  have H:=Zob H u;refine Zza S rfl u (wp_exit (Z1a ?_));obtain rfl:=ZG H;have hq:=aD _ rfl;subst hq;have H:=aA;refine Z1a (Zod ?_);obtain rfl:=ZG H;refine Zp (ay _ _ ⟨_,p,h,q,k,_,rfl,(leT (leR _) ac),(S.fr' rfl),d,ae⟩)
 rintro f w ⟨o,F,s,G,U,I,hq,bJ,S,a3,am⟩;subst hq;have H:=ax;refine Zp (ar _ _ (Zy fun _ a4=>sr (mv S rfl fun f S=>ov S rfl (Z1b S am rfl rfl ZZl) fun f S=>ov S rfl (ZA S rfl rfl Znh) fun f S=>oe ?_)));rcases Zgb (((o.length:Int))==(0:Int)) with B | B
 ·have H:=Zqb H B;refine Zlb S rfl B (sr (mw S rfl fun f S=>oe (wp_ret (ZVi ?_))));obtain rfl:=ZG H;refine ZDf S (ZNc rfl (ZOa S rfl)) ⟨[.string (Zr (([48]:List UInt8)))],rfl,(ZEh zl)⟩
 have H:=Zob H B;refine Zza S rfl B (wp_skip (Zp (a4 _ _ (sr ?_))));obtain ⟨an,bK,S,C⟩:=S.pubSlice (i:=0) (A:=Z2a) (l:=o) (ℓ':=[]) rfl rfl am a3 rfl;refine op_newB 5 S wn rfl zl (ZUn k_zv191) fun r f w S a5=>oe (Zy fun _ a6=>Zy fun _ a7=>bO H fun bM ao H=>ZP (mv S rfl fun f S=>ov S rfl (Z1b S (Z0a C) rfl rfl ZZl) fun f S=>ov S rfl (ZA S rfl rfl (ZIb ao)) fun f S=>mw S rfl fun f S=>ZJ (Zp (a7 _ _ ?_))));obtain ⟨a8,a9,ba⟩:=Zda H;refine ZHc (fun f w=>∃ Q R,Q=a8∧Zb.le an R∧St 49 e c [(7,.pointer (some ⟨r,0,none⟩))] [] R f w∧Bld 191 5 r e R Q w) (fun _ bb=>?_) ?_
 ·have H:=a9;refine wp_block ?_;obtain ⟨bP,bc,bd⟩:=Zda H;refine Zme bc (fun be f w=>∃ Z D T,(Z,D)=be∧Zb.le an T∧St 49 e c [(3,.slice (mkA F) s G),(7,.pointer (some ⟨r,0,none⟩)),(8,.int .i64 D)] [] T f w∧Bld 191 5 r e T Z w∧inR .i64 D) ⟨_,_,_,rfl,(leR _),(S.fr' rfl),a5,(Zvb ao).2⟩ ?_;rintro _ f w st ⟨Z,D,T,hq,aa,S,ap,bQ⟩ H bR bf bg;subst hq;refine Zy fun _ bh=>sr (mv S rfl fun f S=>ov S rfl (ZA S rfl rfl Zkn) fun f S=>oe ?_);rcases Zgb (decide ((0:Int)≤D)) with E | E
  ·have H:=Zqb H E;refine Zlb S rfl E (wp_skip (Zp (bh _ _ (Zy fun _ bi=>wp_block (bO H fun bj ab H=>bO H fun bS bk H=>ZP (mv S rfl fun f S=>mv S rfl fun f S=>?_))))));have C:=Zta aa C;obtain ⟨_,bT,bU,bV,bm,bn,bo⟩:=Z6b C (Zo ab).2.1;obtain ⟨rfl,rfl⟩:=Zdz bm;obtain ⟨rfl,bW⟩:=bo;refine ov S rfl (Zia S rfl rfl ZZl (Zo ab).1 (ltI (Z0a C) (Zo ab).2.2.1)) fun f S=>ov S rfl (Z9a S rfl k_sz9 (S.view bn)) fun f S=>Zwx writes ap (ZLu bk) S wn rfl zl (Zja S [.pointer (some ⟨r,0,none⟩),.string (Zr bj)] k_en121 rfl rfl) fun f w S bp=>ZJ (Zxd (Zp (bi _ _ (bO H fun bX aq H=>ZP (mv S rfl fun f S=>ov S rfl (ZA S rfl rfl (ZIb aq)) fun f S=>mw S rfl fun f S=>ZJ ?_)))));obtain rfl:=ZG H;refine bf _ rfl _ _ ⟨_,_,_,rfl,aa,(S.fr' rfl),bp,(Zvb aq).2⟩
  have H:=Zob H E;refine Zza S rfl E (wp_exit (Z1a ?_));obtain rfl:=ZG H;have hq:=bg _ rfl;subst hq;have H:=bd;refine Z1a (Zod ?_);obtain rfl:=ZG H;refine Zp (bb _ _ ⟨_,_,rfl,(leT (leR _) aa),(S.fr' rfl),ap⟩)
 rintro f w ⟨Q,R,hq,bY,S,bq⟩;subst hq;have H:=ba;refine Zp (a6 _ _ (Zy fun _ br=>bO H fun bZ bs H=>ZP (op_tell tells bq S wn rfl zl (Zja S [.pointer (some ⟨r,0,none⟩)] k_en122 rfl rfl) fun f w S=>mw S rfl fun f S=>ZJ (Zp (br _ _ (wp_ret ?_))))));obtain rfl:=ZG H;refine ZDf S (ZNc rfl (ZOa S rfl)) ⟨[.string (Zr Q)],rfl,(ZEh (Zmk bs))⟩
theorem text_c {c:World} {b:Zb} (hv:VIn b c) {d:List Value} {a:Nat} (f:Rep.rel Zs b d a) {z:(List UInt8)} (hm:ZPf a=some z) :
  Ret Tryz.prog 88 #[Zs.val d] c b (fun y v'=>∃ e,y=Z2a.val e∧Z2a.rel v' e z) :=
 text_w hv f (ZFx hm)
end Go.Eng
set_option maxRecDepth 100000
set_option maxHeartbeats 4000000
namespace Go.Eng
open Go.Proofs Go.RowKit
noncomputable def Z5n:FuncId×Con:=(88,⟨[.leaf 0],[.str],fun p=>ZPf p⟩)
theorem text_k:ZNd Tryz.prog Z5n.1 Z5n.2:=fun w v vals x z hv ha hz=>by
 obtain ⟨c0,e0,p0⟩:=ha;subst e0
 exact .inl ⟨fun _ _=>by kernel_rfl,Ret.mono (text_c hv p0 hz) fun y v' _ ⟨r0,e,h0⟩=>⟨r0,e,h0⟩⟩
end Go.Eng
set_option maxRecDepth 100000
set_option maxHeartbeats 4000000
namespace Go.Eng
open Go.Proofs Go.RowKit
noncomputable def ZGn:FuncId×Con:=(42,⟨[.leaf 3],[.str],fun p=>ZSi p⟩)
theorem ZZq:KQ ZGn:=Zh (Zx (C:=cf0 [Z5n] [] [] []) (.n (.n (.two (.n (.j [1] [] [.s 3 (.dat .str)] .no)) (.f (.n (.j [] [] [.s 3 (.dat .str)] .no)))))) Tryz.func42 [] (fun v vals x z ha hz=>.trans (by kernel_rfl) (ZCv hz)) ⟨text_k,tr⟩)
noncomputable def Zsq (x:Rat):Option ((List UInt8)) :=
 bnd (ZVg x.num.natAbs) fun b =>
 bnd (ifb (decide (x.num<0))
 (bnd (Z4b x) fun d =>
 some (!(d)))
 (some false))
 (fun (e:Bool) =>
 (bnd (ifb (e)
 (bnd (Zbb ((([45]:List UInt8))++b)) fun j =>
 some (((([45]:List UInt8))++b)))
 (some b))
 (fun (a:(List UInt8)) =>
 (bnd (Zhc x) fun f =>
 bnd (ZGa ([(1:Int)])) fun g =>
 bnd (Zzc f g) fun h =>
 bnd (ifb (decide ((0:Int)<h))
 (bnd (Zbb (a++(([47]:List UInt8)))) fun k =>
 bnd (ZVg x.den) fun c =>
 bnd (Zbb (((a++(([47]:List UInt8))))++c)) fun l =>
 some ((((a++(([47]:List UInt8))))++c)))
 (some a))
 (fun (i:(List UInt8)) =>
 (some i))))))
end Go.Eng
set_option maxRecDepth 100000
set_option maxHeartbeats 4000000
namespace Go.Eng
open Go.Proofs Go.RowKit
noncomputable def ZFj:FuncId×Con:=(97,⟨[.leaf 4],[.bool],fun p=>Z4b p⟩)
theorem Z9n:KQ ZFj:=Zh (Zx (C:=cf2 [(43,1),(45,4)] []) .no Tryz.func97 [] (fun v vals x z ha hz=>.trans (by kernel_rfl) (Zmu hz)))
end Go.Eng
set_option maxRecDepth 100000
set_option maxHeartbeats 4000000
namespace Go.Eng
open Go.Proofs Go.RowKit
noncomputable def Zjp:FuncId×Con:=(100,⟨[.leaf 1],[.str],fun p=>ZVg p⟩)
theorem Z5w:KQ Zjp:=Zh (Zx (C:=cf2 [(43,1),(45,4)] [ZNn]) (.n (.n (.f (.j [] [] [.s 3 (.dat .str)] (.f (.l [] [] [.s 0 (.dat (.leaf 1)),.s 3 (.dat .str)] 0 [] [] [.s 3 (.dat .str)] (.f (.n (.f (.n (.f (.n (.j [4] [] [.s 3 (.dat .str)] (.f (.l [4] [] [.s 3 (.dat .str),.s 5 (.dat (.int .u32)),.s 6 (.dat (.int .i64))] 2 [4] [] [.s 3 (.dat .str)] (.f (.f (.f (.j [3,4,5,6] [] [.s 25 (.dat .bool)] .no))))))))))))))))))) Tryz.func100 [] (fun v vals x z ha hz=>.trans (by kernel_rfl) (Z2v hz)) ⟨ZDr,tr⟩)
end Go.Eng
set_option maxRecDepth 100000
set_option maxHeartbeats 4000000
namespace Go.Eng
open Go.Proofs Go.RowKit
noncomputable def ZHi:FuncId×Con:=(102,⟨[.leaf 4],[.leaf 1],fun p=>Zhc p⟩)
theorem Zuj:KQ ZHi:=Zh (Zx (C:=cf2 [(43,1),(45,4)] []) .no Tryz.func102 [] (fun v vals x z ha hz=>.trans (by kernel_rfl) (Zxx hz)))
theorem ZHy {x:Rat} {z:List UInt8} (h:ZMk x=some z):Zsq x=some z:=by
 unfold ZMk at h;split at h
 ·rename_i hh;obtain ⟨h1,h2⟩:=hh
  cases h
  unfold Zsq ZVg;have l1:=Zgk (n:=x.num.natAbs) (by omega);have l2:=Zgk (n:=x.den) (by omega);rw [if_pos (ZPd h1),Za];have e0:ifb (decide (x.num<0)) (bnd (Z4b x) fun y136=>some (!(y136))) (some false)=some (decide (x.num<0)):=by
   unfold Z4b;by_cases h:x.num<0
   ·have:x≠0:=fun e=>by subst e;simp at h
    rw [decide_eq_true h,Ze,Za,decide_eq_false this];rfl
   ·rw [decide_eq_false h,Zf]
  rw [e0,Za];have e1:ifb (decide (x.num<0)) (bnd (Zbb ([45]++Zya x.num.natAbs)) fun y80=>some (([45]:List UInt8)++Zya x.num.natAbs)) (some (Zya x.num.natAbs))=some ((if x.num<0 then [45] else [])++Zya x.num.natAbs):=by
   by_cases h:x.num<0
   ·rw [decide_eq_true h,Ze,Z6d (by simp;omega),Za,if_pos h]
   ·rw [decide_eq_false h,Zf,if_neg h];rfl
  rw [e1,Za];unfold txtQ Zhc Zzc;have l3:((if x.num<0 then [45] else [])++Zya x.num.natAbs:List UInt8).length≤4398046511105:=by
   rw [List.length_append];split <;> simp <;> omega
  generalize ((if x.num<0 then [45] else [])++Zya x.num.natAbs:List UInt8)=s at *;rw [Za,Z4m,Za,Za,ZNs];by_cases hd:x.den=1
  ·rw [hd];simp [ifb,bnd]
  ·have:=x.den_nz;rw [decide_eq_true (by omega),Ze,Z6d (by simp;omega),Za,if_pos (ZPd h2),Za,Z6d (by simp;omega),Za,Za,if_neg hd];simp
 ·cases h
end Go.Eng
set_option maxRecDepth 100000
set_option maxHeartbeats 4000000
namespace Go.Eng
open Go.Proofs Go.RowKit
noncomputable def Z9s:FuncId×Con:=(62,⟨[.leaf 4],[.str],fun p=>ZMk p⟩)
theorem rtext_k:KQ Z9s:=Zh (Zx (C:=cf2 [(43,1),(45,4)] [ZFj,Zjp,ZQh,ZHi]) (.n (.n (.two (.two (.j [1,3] [] [.s 13 (.dat .bool)] .no) (.j [1] [] [.s 3 (.dat .str)] .no)) (.f (.n (.j [] [] [.s 3 (.dat .str)] .no)))))) Tryz.func62 [] (fun v vals x z ha hz=>.trans (by kernel_rfl) (ZHy hz)) ⟨Z9n,Z5w,ZEj,Zuj,tr⟩)
end Go.Eng
set_option maxRecDepth 100000
set_option maxHeartbeats 4000000
namespace Go.Eng
open Go.Proofs Go.RowKit
noncomputable def is1_q:FuncId×Con:=(21,⟨[.leaf 3,.leaf 4],[.bool],fun p=>is1_m p.1 p.2⟩)
theorem is1_k:KQ is1_q:=Zh (Zt (C:=cf0 [ZGn,Z9s] [] [] []) .no Tryz.func21 [] (fun _=>by kernel_rfl) ⟨ZZq,rtext_k,tr⟩)
end Go.Eng
set_option maxRecDepth 100000
set_option maxHeartbeats 4000000
namespace Go.Eng
open Go.Proofs Go.RowKit
noncomputable def ZZk:FuncId×Con:=(57,⟨[.pair (.leaf 4) (.pair (.leaf 4) (.pair (.leaf 4) (.leaf 4)))],[.bool],fun p=>ZJf p⟩)
theorem ZDn:KQ ZZk:=Zh (Zt (C:=cf0 [ZFj] [] [] []) (.n (.f (.j [] [] [.s 2 (.dat .bool)] .no))) Tryz.func57 [] (fun _=>by kernel_rfl) ⟨Z9n,tr⟩)
end Go.Eng
set_option maxRecDepth 100000
set_option maxHeartbeats 4000000
namespace Go.Eng
open Go.Proofs Go.RowKit
noncomputable def Zfq:FuncId×Con:=(148,⟨[.pair (.pair (.leaf 4) (.pair (.leaf 4) (.pair (.leaf 4) (.leaf 4)))) (.pair (.leaf 4) (.pair (.leaf 4) (.pair (.leaf 4) (.leaf 4))))],[.bool],fun p=>Zfp p⟩)
theorem wZero_k:KQ Zfq:=Zh (Zt (C:=cf0 [ZZk] [] [] []) (.n (.f (.j [] [] [.s 2 (.dat .bool)] .no))) Tryz.func148 [] (fun _=>by kernel_rfl) ⟨ZDn,tr⟩)
end Go.Eng
set_option maxRecDepth 100000
set_option maxHeartbeats 4000000
namespace Go.Eng
open Go.Proofs Go.RowKit
noncomputable def Z8n:FuncId×Con:=(136,⟨[.leaf 1,.leaf 1],[.leaf 1],fun p=>Zef p.1 p.2⟩)
theorem ZMp:KQ Z8n:=Zh (Zx (C:=cf2 [(43,1),(45,4)] [Zbe]) (.n (.n (.n (.f (.n (.j [] [] [.s 5 (.own 154 (.int .u32)),.s 6 (.dat (.int .u64))] (.f (.l [0,1] [] [.s 5 (.own 154 (.int .u32)),.s 6 (.dat (.int .u64)),.s 7 (.dat (.int .i64))] 0 [] [] [.s 5 (.own 154 (.int .u32)),.s 6 (.dat (.int .u64))] (.f (.two (.f (.j [0,1,5,6,7] [] [.s 18 (.dat .bool)] .no)) (.f (.f (.two (.n (.j [0,1,5,7] [] [.s 6 (.dat (.int .u64))] .no)) (.f (.n (.j [0,1,5,7] [] [.s 6 (.dat (.int .u64))] .no)))))))))))))))) Tryz.func136 [] (fun v vals x z ha hz=>.trans (by kernel_rfl) (ZUy hz)) ⟨Z3e,tr⟩)
theorem radd_eq {x y:Rat} (h:smQ x) (h':smQ y):Zem x y=some (x+y):=by
 obtain ⟨a1,a2⟩:=h;obtain ⟨b1,b2⟩:=h';unfold Zem Zhc;have p1:=Zeb x.num.natAbs y.den;have p2:=Zeb y.num.natAbs x.den;have p3:=Zeb x.den y.den;have p4:=ZKm (x.num.natAbs*y.den) (y.num.natAbs*x.den);have hd:x.den*y.den≠0:=Nat.mul_ne_zero x.den_nz y.den_nz;have e1:Zsa x.num.natAbs y.den=some (x.num.natAbs*y.den):=by unfold Zsa;rw [if_pos ⟨ZNb (by omega),ZNb (by omega)⟩]
 have e2:Zsa y.num.natAbs x.den=some (y.num.natAbs*x.den):=by unfold Zsa;rw [if_pos ⟨ZNb (by omega),ZNb (by omega)⟩]
 have e3:Zsa x.den y.den=some (x.den*y.den):=by unfold Zsa;rw [if_pos ⟨ZNb (by omega),ZNb (by omega)⟩]
 have eN:((x.num.natAbs*y.den:Nat):Int)=(x.num.natAbs:Int)*y.den:=by simp
 have eM:((y.num.natAbs*x.den:Nat):Int)=(y.num.natAbs:Int)*x.den:=by simp
 have key:∀ (s:Bool) (n:Nat),bl n≤1099511627776→sgn s n=x.num*y.den+y.num*x.den→ZNa s n (x.den*y.den)=some (x+y):=by
  intro s n hn he;unfold ZNa;rw [if_pos ⟨ZPd hn,ZPd (by omega),hd⟩,he,← Rat.add_def']
 rw [Za,Za,e1,Za,e2,Za,e3];obtain ⟨N,hN⟩:∃ N,N=x.num.natAbs*y.den:=⟨_,rfl⟩;obtain ⟨M,hM⟩:∃ M,M=y.num.natAbs*x.den:=⟨_,rfl⟩;rw [← hN] at p1 p4 eN ⊢;rw [← hM] at p2 p4 eM ⊢;have sx:x.num*(y.den:Int)=if x.num<0 then -(N:Int) else N:=by
  split
  ·rw [eN,← Int.neg_mul];congr 1;omega
  ·rw [eN];congr 1;omega
 have sy:y.num*(x.den:Int)=if y.num<0 then -(M:Int) else M:=by
  split
  ·rw [eM,← Int.neg_mul];congr 1;omega
  ·rw [eM];congr 1;omega
 by_cases hs:(x.num<0)↔(y.num<0)
 ·have e4:Zef N M=some (N+M):=by unfold Zef;rw [if_pos ⟨ZNb (by omega),ZNb (by omega)⟩]
  have e5:((decide (x.num<0))==(decide (y.num<0)))=true:=by
   by_cases h:x.num<0
   ·simp [h,hs.1 h]
   ·have h2:¬ y.num<0:=fun k=>h (hs.2 k);simp [h,h2]
  rw [e5,Ze,e4,Za,Za,key _ _ (by omega) ?_,Za];rw [sx,sy];unfold sgn;by_cases h:x.num<0
  ·have h2:=hs.1 h;simp [h,h2];omega
  ·have h2:¬ y.num<0:=fun k=>h (hs.2 k);simp [h,h2]
 ·have e5:((decide (x.num<0))==(decide (y.num<0)))=false:=by
   apply beq_false_of_ne;intro h;exact hs (by by_cases k:x.num<0 <;> by_cases k2:y.num<0 <;> simp_all)
  rw [e5,Zf];unfold Zzc;rw [Za];by_cases hle:M≤N
  ·have e6:decide ((0:Int)≤Z3 N M)=true:=by
    unfold Z3;rw [if_neg (by omega)];split <;> rfl
   have e4:ZBb N M=some (N-M):=by unfold ZBb;rw [if_pos ⟨ZNb (by omega),hle⟩]
   have hb:bl (N-M)≤bl N:=Z2d (by omega);rw [e6,Ze,e4,Za,Za,key _ _ (by omega) ?_,Za];rw [sx,sy];unfold sgn;by_cases h:x.num<0
   ·have h2:¬ y.num<0:=fun k=>hs ⟨fun _=>k,fun _=>h⟩;simp [h,h2];omega
   ·have h2:y.num<0:=by
     rcases Int.lt_or_le y.num 0 with k | k
     ·exact k
     ·exact absurd ⟨fun q=>absurd q h,fun q=>absurd q (by omega)⟩ hs
    simp [h,h2];omega
  ·have e6:decide ((0:Int)≤Z3 N M)=false:=by
    unfold Z3;rw [if_pos (by omega)];rfl
   have e4:ZBb M N=some (M-N):=by unfold ZBb;rw [if_pos ⟨ZNb (by omega),by omega⟩]
   have hb:bl (M-N)≤bl M:=Z2d (by omega);rw [e6,Zf,e4,Za,Za,key _ _ (by omega) ?_,Za];rw [sx,sy];unfold sgn;by_cases h:x.num<0
   ·have h2:¬ y.num<0:=fun k=>hs ⟨fun _=>k,fun _=>h⟩;simp [h,h2];omega
   ·have h2:y.num<0:=by
     rcases Int.lt_or_le y.num 0 with k | k
     ·exact k
     ·exact absurd ⟨fun q=>absurd q h,fun q=>absurd q (by omega)⟩ hs
    simp [h,h2];omega
theorem ZSw {x y z:Rat} (h:ZS x y=some z):Zem x y=some z:=by
 unfold ZS at h;split at h
 ·rename_i hh;rw [radd_eq hh.1 hh.2,h]
 ·cases h
end Go.Eng
set_option maxRecDepth 100000
set_option maxHeartbeats 4000000
namespace Go.Eng
open Go.Proofs Go.RowKit
noncomputable def ZLj:FuncId×Con:=(103,⟨[.leaf 4,.leaf 4],[.leaf 4],fun p=>ZS p.1 p.2⟩)
theorem Znm:KQ ZLj:=Zh (Zx (C:=cf2 [(43,1),(45,4)] [Z5d,ZQh,ZHi,Zxj,Z8n,Zao]) .no Tryz.func103 [] (fun v vals x z ha hz=>.trans (by kernel_rfl) (ZSw hz)) ⟨ZTe,ZEj,Zuj,ZUm,ZMp,ZWp,tr⟩)
end Go.Eng
set_option maxRecDepth 100000
set_option maxHeartbeats 4000000
namespace Go.Eng
open Go.Proofs Go.RowKit
noncomputable def ZOj:FuncId×Con:=(63,⟨[.pair (.leaf 4) (.pair (.leaf 4) (.pair (.leaf 4) (.leaf 4))),.pair (.leaf 4) (.pair (.leaf 4) (.pair (.leaf 4) (.leaf 4)))],[.pair (.leaf 4) (.pair (.leaf 4) (.pair (.leaf 4) (.leaf 4)))],fun p=>Z4g p.1 p.2⟩)
theorem ZMm:KQ ZOj:=Zh (Zt (C:=cf0 [ZLj] [] [] []) .no Tryz.func63 [] (fun _=>by kernel_rfl) ⟨Znm,tr⟩)
theorem rneg_eq {x:Rat} (h:okQ x):ZQn x=some (-x):=by
 obtain ⟨h1,h2⟩:=h;unfold ZQn Zhc ZNa;rw [Za,if_pos ⟨ZPd h1,ZPd h2,x.den_nz⟩,Za];congr 1;have e:sgn (!(decide (x.num<0))) x.num.natAbs = -x.num:=by
  unfold sgn;by_cases h:x.num<0
  ·simp [h];omega
  ·simp [h];omega
 rw [e];exact Rat.mkRat_self (-x)
theorem ZNx {x z:Rat} (h:Zid x=some z):ZQn x=some z:=by
 unfold Zid at h;split at h
 ·rename_i hh;rw [rneg_eq hh,h]
 ·cases h
end Go.Eng
set_option maxRecDepth 100000
set_option maxHeartbeats 4000000
namespace Go.Eng
open Go.Proofs Go.RowKit
noncomputable def Zgs:FuncId×Con:=(107,⟨[.leaf 4],[.leaf 4],fun p=>Zid p⟩)
theorem rneg_k:KQ Zgs:=Zh (Zx (C:=cf2 [(43,1),(45,4)] [Z5d,ZHi]) .no Tryz.func107 [] (fun v vals x z ha hz=>.trans (by kernel_rfl) (ZNx hz)) ⟨ZTe,Zuj,tr⟩)
end Go.Eng
set_option maxRecDepth 100000
set_option maxHeartbeats 4000000
namespace Go.Eng
open Go.Proofs Go.RowKit
noncomputable def Zfo:FuncId×Con:=(76,⟨[.pair (.leaf 4) (.pair (.leaf 4) (.pair (.leaf 4) (.leaf 4)))],[.pair (.leaf 4) (.pair (.leaf 4) (.pair (.leaf 4) (.leaf 4)))],fun p=>ZRi p⟩)
theorem Zqo:KQ Zfo:=Zh (Zt (C:=cf0 [Zgs] [] [] []) .no Tryz.func76 [] (fun _=>by kernel_rfl) ⟨rneg_k,tr⟩)
end Go.Eng
set_option maxRecDepth 100000
set_option maxHeartbeats 4000000
namespace Go.Eng
open Go.Proofs Go.RowKit
noncomputable def ZIf:FuncId×Con:=(74,⟨[.pair (.leaf 4) (.pair (.leaf 4) (.pair (.leaf 4) (.leaf 4))),.pair (.leaf 4) (.pair (.leaf 4) (.pair (.leaf 4) (.leaf 4)))],[.pair (.leaf 4) (.pair (.leaf 4) (.pair (.leaf 4) (.leaf 4)))],fun p=>ZFc p.1 p.2⟩)
theorem Zpg:KQ ZIf:=Zh (Zt (C:=cf0 [ZOj,Zfo] [] [] []) .no Tryz.func74 [] (fun _=>by kernel_rfl) ⟨ZMm,Zqo,tr⟩)
end Go.Eng
set_option maxRecDepth 100000
set_option maxHeartbeats 4000000
namespace Go.Eng
open Go.Proofs Go.RowKit
noncomputable def Zvt:FuncId×Con:=(149,⟨[.pair (.pair (.leaf 4) (.pair (.leaf 4) (.pair (.leaf 4) (.leaf 4)))) (.pair (.leaf 4) (.pair (.leaf 4) (.pair (.leaf 4) (.leaf 4)))),.pair (.pair (.leaf 4) (.pair (.leaf 4) (.pair (.leaf 4) (.leaf 4)))) (.pair (.leaf 4) (.pair (.leaf 4) (.pair (.leaf 4) (.leaf 4))))],[.pair (.pair (.leaf 4) (.pair (.leaf 4) (.pair (.leaf 4) (.leaf 4)))) (.pair (.leaf 4) (.pair (.leaf 4) (.pair (.leaf 4) (.leaf 4))))],fun p=>ZEq p.1 p.2⟩)
theorem wSub_k:KQ Zvt:=Zh (Zt (C:=cf0 [ZIf] [] [] []) .no Tryz.func149 [] (fun _=>by kernel_rfl) ⟨Zpg,tr⟩)
end Go.Eng
set_option maxRecDepth 100000
set_option maxHeartbeats 4000000
namespace Go.Eng
open Go.Proofs Go.RowKit
noncomputable def Zvo:FuncId×Con:=(117,⟨[.pair (.pair (.leaf 4) (.pair (.leaf 4) (.pair (.leaf 4) (.leaf 4)))) (.pair (.leaf 4) (.pair (.leaf 4) (.pair (.leaf 4) (.leaf 4)))),.pair (.pair (.leaf 4) (.pair (.leaf 4) (.pair (.leaf 4) (.leaf 4)))) (.pair (.leaf 4) (.pair (.leaf 4) (.pair (.leaf 4) (.leaf 4))))],[.bool],fun p=>ZYo p.1 p.2⟩)
theorem wSame_k:KQ Zvo:=Zh (Zt (C:=cf0 [Zfq,Zvt] [] [] []) .no Tryz.func117 [] (fun _=>by kernel_rfl) ⟨wZero_k,wSub_k,tr⟩)
end Go.Eng
set_option maxRecDepth 100000
set_option maxHeartbeats 4000000
namespace Go.Eng
open Go.Proofs Go.RowKit
noncomputable def is2_q:FuncId×Con:=(87,⟨[.slice (.leaf 3),.slice (.pair (.pair (.leaf 4) (.pair (.leaf 4) (.pair (.leaf 4) (.leaf 4)))) (.pair (.leaf 4) (.pair (.leaf 4) (.pair (.leaf 4) (.leaf 4)))))],[.bool],fun p=>is2_m p.1 p.2⟩)
theorem is2_k:KQ is2_q:=Zh (Zt (C:=cf0 [is1_q,ZAn,Zvo] [] [] []) (.n (.n (.f (.n (.f (.cut ⟨⟨[0,1,12],[],[.s 13 (.dat (.int .i64))]⟩,[(.exit 0,⟨[],[],[]⟩),(.ret,⟨[],[],[.s 1000 (.dat .bool)]⟩)]⟩ (.f (.n (.n (.f (.f (.n (.f (.j [0,1,12,13] [] [.s 42 (.dat .bool)] .no)))))))))))))) Tryz.func87 [] (fun _=>by kernel_rfl) ⟨is1_k,Zqr,wSame_k,tr⟩)
end Go.Eng
set_option maxRecDepth 100000
set_option maxHeartbeats 4000000
namespace Go.Eng
open Go.Proofs Go.RowKit
noncomputable def ZSp:FuncId×Con:=(41,⟨[.slice (.slice (.leaf 3)),.slice (.slice (.pair (.pair (.leaf 4) (.pair (.leaf 4) (.pair (.leaf 4) (.leaf 4)))) (.pair (.leaf 4) (.pair (.leaf 4) (.pair (.leaf 4) (.leaf 4))))))],[.bool],fun p=>Zel p.1 p.2⟩)
theorem Zyw:KQ ZSp:=Zh (Zt (C:=cf0 [is2_q] [] [] []) (.n (.n (.f (.n (.f (.cut ⟨⟨[0,1,12],[],[.s 13 (.dat (.int .i64))]⟩,[(.exit 0,⟨[],[],[]⟩),(.ret,⟨[],[],[.s 1000 (.dat .bool)]⟩)]⟩ .no)))))) Tryz.func41 [] (fun _=>by kernel_rfl) ⟨is2_k,tr⟩)
end Go.Eng
set_option maxRecDepth 100000
set_option maxHeartbeats 4000000
namespace Go.Eng
open Go.Proofs Go.RowKit
noncomputable def Z4r:FuncId×Con:=(8,⟨[],[.bool],fun _=>ZKh⟩)
theorem Zvx:KQ Z4r:=Zh (Zt (C:=cf0 [ZEo,Zkp,ZSj,ZMo,ZRs,Zxo,ZSp,ZGn] [] [] []) (.n (.n (.n (.n (.n (.n (.n (.n (.f (.j [] [] [.s 0 (.dat .bool)] .no)))))))))) Tryz.func8 [] (fun _=>by kernel_rfl) ⟨Z8t,ZXt,Zun,Z9y,ZJw,Zyu,Zyw,ZZq,tr⟩)
end Go.Eng
set_option maxRecDepth 100000
set_option maxHeartbeats 4000000
namespace Go.Eng
open Go.Proofs Go.RowKit
noncomputable def ZLm:FuncId×Con:=(65,⟨[.slice (.slice (.leaf 3)),.slice (.leaf 3),.slice (.leaf 3)],[.bool],fun p=>ZMe p.1 p.2.1 p.2.2⟩)
theorem ZHq:KQ ZLm:=Zh (Zt (C:=cf0 [Zaf,Zik] [] [] []) (.n (.f (.j [] [] [.s 6 (.dat .bool)] .no))) Tryz.func65 [] (fun _=>by kernel_rfl) ⟨ZGg,Zio,tr⟩)
end Go.Eng
set_option maxRecDepth 100000
set_option maxHeartbeats 4000000
namespace Go.Eng
open Go.Proofs Go.RowKit
noncomputable def ZCm:FuncId×Con:=(67,⟨[.slice (.slice (.leaf 3)),.slice (.leaf 3),.slice (.leaf 3),.slice (.leaf 3)],[.bool],fun p=>ZDh p.1 p.2.1 p.2.2.1 p.2.2.2⟩)
theorem Zrp:KQ ZCm:=Zh (Zt (C:=cf0 [Zei,Zsk] [] [] []) (.n (.n (.f (.j [] [] [.s 8 (.dat .bool)] .no)))) Tryz.func67 [] (fun _=>by kernel_rfl) ⟨ZQk,Zhn,tr⟩)
end Go.Eng
set_option maxRecDepth 100000
set_option maxHeartbeats 4000000
namespace Go.Eng
open Go.Proofs Go.RowKit
noncomputable def Z6n:FuncId×Con:=(68,⟨[.slice (.slice (.leaf 3)),.slice (.leaf 3),.slice (.leaf 3)],[.slice (.leaf 3)],fun p=>Zyi p.1 p.2.1 p.2.2⟩)
theorem ZXr : KQ Z6n := Zh (Zt (C := cf0 [Zcl, Zaf, ZQe] [] [Zgg] [((59, "Sub"), 212)]) (.n (.n (.f (.n (.f (.l [0, 1, 2, 10] [] [.s 7 (.own 59 (.leaf 3)), .s 11 (.dat (.int .i64))] 0 [0] [] [.s 7 (.own 59 (.leaf 3))] .no)))))) Tryz.func68 [] (fun _ => by kernel_rfl) ⟨ZUl, ZGg, Zjf, tr⟩ ⟨ZOh, tr⟩ ⟨ZFg, tr⟩)
end Go.Eng
set_option maxRecDepth 100000
set_option maxHeartbeats 4000000
namespace Go.Eng
open Go.Proofs Go.RowKit
noncomputable def ZZp:FuncId×Con:=(28,⟨[.slice (.slice (.leaf 3)),.slice (.leaf 3),.slice (.leaf 3),.pair .bool (.pair (.slice (.leaf 3)) (.pair (.slice (.leaf 3)) (.slice (.leaf 3))))],[.bool],fun p=>Zqh p.1 p.2.1 p.2.2.1 p.2.2.2⟩)
theorem Zkv : KQ ZZp := Zh (Zt (C := cf0 [ZHh, ZSg, ZLm, Zaf, ZCm, Z6n, ZBd, ZQe] [] [] [((59, "Sign"), 211), ((59, "Sub"), 212)]) (.n (.n (.two (.n (.f (.f (.j [] [] [.s 8 (.dat .bool)] .no)))) (.f (.f (.j [1, 2, 7] [] [.s 88 (.dat .bool)] .no)))))) Tryz.func28 [] (fun _ => by kernel_rfl) ⟨Zkk, Zai, ZHq, ZGg, Zrp, ZXr, ZMd, Zjf, tr⟩ tr ⟨ZOe, ZFg, tr⟩)
end Go.Eng
set_option maxRecDepth 100000
set_option maxHeartbeats 4000000
namespace Go.Eng
open Go.Proofs Go.RowKit
noncomputable def ZQs:FuncId×Con:=(69,⟨[.slice (.leaf 3)],[.bool],fun p=>Zgi p⟩)
theorem Zwy : KQ ZQs := Zh (Zt (C := cf0 [ZBd] [] [] [((59, "Sign"), 211)]) .no Tryz.func69 [(91, Tryz.f91, .no), (105, Tryz.f105, .no), (126, Tryz.f126, .r [] [] [.s 1000 (.dat (.int .i64))] (.n (.f (.n (.f (.cut ⟨⟨[0, 1, 7], [], [.s 8 (.dat (.int .i64))]⟩, [(.exit 0, ⟨[], [], []⟩), (.ret, ⟨[], [], [.s 1000 (.dat (.int .i64))]⟩)]⟩ .no))))))] (fun _ => by kernel_rfl) ⟨ZMd, tr⟩ tr ⟨ZOe, tr⟩ ⟨⟨Tryz.func91, fun _ _ => by kernel_rfl⟩, ⟨Tryz.func105, fun _ _ => by kernel_rfl⟩, ⟨Tryz.func126, fun _ _ => by kernel_rfl⟩, tr⟩)
end Go.Eng
set_option maxRecDepth 100000
set_option maxHeartbeats 4000000
namespace Go.Eng
open Go.Proofs Go.RowKit
noncomputable def Zjt:FuncId×Con:=(70,⟨[.slice (.leaf 3),.leaf 3],[.slice (.leaf 3)],fun p=>Zsj p.1 p.2⟩)
theorem Zfz : KQ Zjt := Zh (Zt (C := cf0 [ZRf] [] [] [((59, "Mul"), 206)]) (.n (.n (.f (.n (.f (.l [3, 8, 9] [] [.s 5 (.own 59 (.leaf 3)), .s 10 (.dat (.int .i64))] 0 [] [] [.s 5 (.own 59 (.leaf 3))] .no)))))) Tryz.func70 [] (fun _ => by kernel_rfl) ⟨ZLg, tr⟩ tr ⟨Zvh, tr⟩)
end Go.Eng
set_option maxRecDepth 100000
set_option maxHeartbeats 4000000
namespace Go.Eng
open Go.Proofs Go.RowKit
noncomputable def Zcp:FuncId×Con:=(29,⟨[.slice (.slice (.leaf 3)),.slice (.leaf 3),.slice (.leaf 3),.pair (.leaf 3) (.pair (.slice (.leaf 3)) (.pair (.slice (.leaf 3)) (.slice (.leaf 3))))],[.bool],fun p=>ZMg p.1 p.2.1 p.2.2.1 p.2.2.2⟩)
theorem ZMu : KQ Zcp := Zh (Zt (C := cf0 [ZHh, ZSg, ZLm, Zaf, ZCm, Z6n, ZQs, Zjt, ZAd, Ztf, ZAi, Zql, ZBd, ZQe] [] [Z7g] [((59, "Add"), 203), ((59, "Cmp"), 204), ((59, "Same"), 210), ((59, "Sign"), 211), ((59, "Sub"), 212)]) (.n (.two (.f (.j [0, 1, 2, 7] [] [.s 43 (.dat .bool)] .no)) (.two (.f (.j [0, 1, 2, 7] [] [.s 79 (.dat .bool)] .no)) (.n (.n (.two (.n (.f (.l [0, 1, 2, 7, 9, 10, 11, 89] [] [.s 90 (.dat (.int .i64)), .l (.sl 10) (.own 59 (.leaf 3)), .l (.sl 11) (.own 59 (.leaf 3))] 0 [0, 1, 2, 7, 10, 11] [] [.l (.sl 10) (.own 59 (.leaf 3)), .l (.sl 11) (.own 59 (.leaf 3))] .no))) (.n (.f (.j [] [] [.s 8 (.dat .bool)] .no))))))))) Tryz.func29 [] (fun _ => by kernel_rfl) ⟨Zkk, Zai, ZHq, ZGg, Zrp, ZXr, Zwy, Zfz, ZLd, Zch, ZCk, ZJo, ZMd, Zjf, tr⟩ ⟨ZNk, tr⟩ ⟨Zxi, ZZi, Zhr, ZOe, ZFg, tr⟩)
theorem Z4v {x y z:Rat} (h:ZQ x y=some z):ZAs x y=some z:=by
 unfold ZQ at h;split at h
 ·rename_i hh;obtain ⟨⟨a1,a2⟩,b1,b2⟩:=hh
  cases h
  unfold ZAs Zhc;have p1:=Zeb x.num.natAbs y.num.natAbs;have p3:=Zeb x.den y.den;have e1:Zsa x.num.natAbs y.num.natAbs=some (x.num.natAbs*y.num.natAbs):=by unfold Zsa;rw [if_pos ⟨ZNb (by omega),ZNb (by omega)⟩]
  have e3:Zsa x.den y.den=some (x.den*y.den):=by unfold Zsa;rw [if_pos ⟨ZNb (by omega),ZNb (by omega)⟩]
  rw [e1,Za,Za,Za,e3,Za];unfold ZNa;rw [if_pos ⟨ZPd (by omega),ZPd (by omega),Nat.mul_ne_zero x.den_nz y.den_nz⟩,Za];have e:sgn ((decide (x.num<0)) != (decide (y.num<0))) (x.num.natAbs*y.num.natAbs)=x.num*y.num:=by
   have eN:((x.num.natAbs*y.num.natAbs:Nat):Int)=(x.num.natAbs:Int)*y.num.natAbs:=by simp
   unfold sgn;rw [eN];by_cases h:x.num<0
   ·have hx:(x.num.natAbs:Int) = -x.num:=by omega
    by_cases h2:y.num<0
    ·have hy:(y.num.natAbs:Int) = -y.num:=by omega
     simp [h,h2,hx,hy,Int.neg_mul,Int.mul_neg]
    ·have hy:(y.num.natAbs:Int)=y.num:=by omega
     simp [h,h2,hx,hy,Int.neg_mul,Int.mul_neg]
   ·have hx:(x.num.natAbs:Int)=x.num:=by omega
    by_cases h2:y.num<0
    ·have hy:(y.num.natAbs:Int) = -y.num:=by omega
     simp [h,h2,hx,hy,Int.neg_mul,Int.mul_neg]
    ·have hy:(y.num.natAbs:Int)=y.num:=by omega
     simp [h,h2,hx,hy,Int.neg_mul,Int.mul_neg]
  rw [e,← Rat.mul_def']
 ·cases h
end Go.Eng
set_option maxRecDepth 100000
set_option maxHeartbeats 4000000
namespace Go.Eng
open Go.Proofs Go.RowKit
noncomputable def ZGm:FuncId×Con:=(104,⟨[.leaf 4,.leaf 4],[.leaf 4],fun p=>ZQ p.1 p.2⟩)
theorem ZBr:KQ ZGm:=Zh (Zx (C:=cf2 [(43,1),(45,4)] [Z5d,ZHi,Zxj]) .no Tryz.func104 [] (fun v vals x z ha hz=>.trans (by kernel_rfl) (Z4v hz)) ⟨ZTe,Zuj,ZUm,tr⟩)
end Go.Eng
set_option maxRecDepth 100000
set_option maxHeartbeats 4000000
namespace Go.Eng
open Go.Proofs Go.RowKit
noncomputable def Zwn:FuncId×Con:=(64,⟨[.pair (.leaf 4) (.pair (.leaf 4) (.pair (.leaf 4) (.leaf 4))),.pair (.leaf 4) (.pair (.leaf 4) (.pair (.leaf 4) (.leaf 4)))],[.pair (.leaf 4) (.pair (.leaf 4) (.pair (.leaf 4) (.leaf 4)))],fun p=>Zzh p.1 p.2⟩)
theorem Zvp:KQ Zwn:=Zh (Zt (C:=cf0 [Z8f,Zte,ZLj,ZGm] [] [] []) (.n (.n (.f (.n (.f (.unroll 5 (.f (.n (.f (.f (.n (.f (.unroll 5 .no))))))))))))) Tryz.func64 [] (fun _=>by kernel_rfl) ⟨Z2g,Zyf,Znm,ZBr,tr⟩)
end Go.Eng
set_option maxRecDepth 100000
set_option maxHeartbeats 4000000
namespace Go.Eng
open Go.Proofs Go.RowKit
noncomputable def Zqk:FuncId×Con:=(22,⟨[.slice (.pair (.leaf 4) (.pair (.leaf 4) (.pair (.leaf 4) (.leaf 4)))),.slice (.pair (.leaf 4) (.pair (.leaf 4) (.pair (.leaf 4) (.leaf 4))))],[.pair (.leaf 4) (.pair (.leaf 4) (.pair (.leaf 4) (.leaf 4)))],fun p=>Z0b p.1 p.2⟩)
theorem Z1m:KQ Zqk:=Zh (Zt (C:=cf0 [Z8f,Zte,ZOj,Zwn] [] [] []) (.n (.n (.f (.n (.f (.l [0,1,4,5] [] [.s 6 (.dat (.int .i64)),.l (.sl 5) (.box 47 (.dat (.pair (.leaf 4) (.pair (.leaf 4) (.pair (.leaf 4) (.leaf 4))))))] 0 [4,5] [] [.l (.sl 5) (.box 47 (.dat (.pair (.leaf 4) (.pair (.leaf 4) (.pair (.leaf 4) (.leaf 4))))))] .no)))))) Tryz.func22 [] (fun _=>by kernel_rfl) ⟨Z2g,Zyf,ZMm,Zvp,tr⟩)
end Go.Eng
set_option maxRecDepth 100000
set_option maxHeartbeats 4000000
namespace Go.Eng
open Go.Proofs Go.RowKit
noncomputable def Zgl:FuncId×Con:=(36,⟨[.slice (.slice (.pair (.leaf 4) (.pair (.leaf 4) (.pair (.leaf 4) (.leaf 4))))),.slice (.pair (.leaf 4) (.pair (.leaf 4) (.pair (.leaf 4) (.leaf 4)))),.slice (.pair (.leaf 4) (.pair (.leaf 4) (.pair (.leaf 4) (.leaf 4))))],[.bool],fun p=>ZQf p.1 p.2.1 p.2.2⟩)
theorem Zpp:KQ Zgl:=Zh (Zt (C:=cf0 [] [] [] []) (.n (.two (.f (.j [0] [] [.s 29 (.dat .bool)] .no)) (.f (.n (.f (.cut ⟨⟨[0],[],[.s 7 (.dat (.int .i64))]⟩,[(.exit 0,⟨[],[],[]⟩),(.ret,⟨[],[],[.s 1000 (.dat .bool)]⟩)]⟩ (.f (.n (.f (.f (.f (.j [0,7] [] [.s 61 (.dat .bool)] .no)))))))))))) Tryz.func36 [] (fun _=>by kernel_rfl))
theorem ZNw {x:Rat} {z:Int} (h:ZGd x=some z):Z3p x=some z:=by
 unfold ZGd at h
 cases h
 unfold Z3p Z4b;rw [Za];by_cases h0:x=0
 ·subst h0;rfl
 ·have:=Zdq h0;rw [decide_eq_false h0,Zf];by_cases h1:x.num<0
  ·rw [decide_eq_true h1,Ze,Int.sign_eq_neg_one_of_neg h1]
  ·rw [decide_eq_false h1,Zf,Int.sign_eq_one_of_pos (by omega)]
end Go.Eng
set_option maxRecDepth 100000
set_option maxHeartbeats 4000000
namespace Go.Eng
open Go.Proofs Go.RowKit
noncomputable def Zdn:FuncId×Con:=(99,⟨[.leaf 4],[.int .i64],fun p=>ZGd p⟩)
theorem Z3o:KQ Zdn:=Zh (Zx (C:=cf2 [(43,1),(45,4)] [ZFj]) .no Tryz.func99 [] (fun v vals x z ha hz=>.trans (by kernel_rfl) (ZNw hz)) ⟨Z9n,tr⟩)
end Go.Eng
set_option maxRecDepth 100000
set_option maxHeartbeats 4000000
namespace Go.Eng
open Go.Proofs Go.RowKit
noncomputable def ZLo:FuncId×Con:=(167,⟨[.int .i64],[.leaf 4],fun p=>Znq p⟩)
theorem runit_k:KQ ZLo:=Zh (Zt (C:=cf0 [Z5d,Zlg] [] [] []) .no Tryz.func167 [] (fun _=>by kernel_rfl) ⟨ZTe,ZZh,tr⟩)
end Go.Eng
set_option maxRecDepth 100000
set_option maxHeartbeats 4000000
namespace Go.Eng
open Go.Proofs Go.RowKit
noncomputable def Zno:FuncId×Con:=(132,⟨[.int .i64],[.leaf 4],fun p=>ZZn p⟩)
theorem Zpu:KQ Zno:=Zh (Zt (C:=cf0 [Z5d,Zlg,ZLo] [] [] []) .no Tryz.func132 [] (fun _=>by kernel_rfl) ⟨ZTe,ZZh,runit_k,tr⟩)
end Go.Eng
set_option maxRecDepth 100000
set_option maxHeartbeats 4000000
namespace Go.Eng
open Go.Proofs Go.RowKit
noncomputable def Zft:FuncId×Con:=(168,⟨[.leaf 1],[.leaf 1],fun p=>ZVo p⟩)
theorem rRoot_k:KQ Zft:=Zh (Zt (C:=cf0 [ZQh,Zuk,Z8n,Zsm,Zlg,ZRm] [] [] []) (.n (.n (.n (.f (.cut ⟨⟨[0],[],[.s 3 (.dat (.leaf 1))]⟩,[(.ret,⟨[],[],[.s 1000 (.dat (.leaf 1))]⟩)]⟩ .no))))) Tryz.func168 [] (fun _=>by kernel_rfl) ⟨ZEj,Zhm,ZMp,ZAq,ZZh,ZAr,tr⟩)
end Go.Eng
set_option maxRecDepth 100000
set_option maxHeartbeats 4000000
namespace Go.Eng
open Go.Proofs Go.RowKit
noncomputable def ZRp:FuncId×Con:=(133,⟨[.int .u64,.int .i64],[.leaf 4],fun p=>Z2f p.1 p.2⟩)
theorem Zgv:KQ ZRp:=Zh (Zt (C:=cf0 [Z5d,Z4i,Zlg,Zft] [] [] []) .no Tryz.func133 [] (fun _=>by kernel_rfl) ⟨ZTe,Zil,ZZh,rRoot_k,tr⟩)
end Go.Eng
set_option maxRecDepth 100000
set_option maxHeartbeats 4000000
namespace Go.Eng
open Go.Proofs Go.RowKit
noncomputable def Zar:FuncId×Con:=(98,⟨[.pair (.leaf 4) (.pair (.leaf 4) (.pair (.leaf 4) (.leaf 4))),.int .i64],[.leaf 4,.leaf 4],fun p=>ZIj p.1 p.2⟩)
theorem Z1x:KQ Zar:=Zh (Zt (C:=cf0 [Zdn,ZLj,ZGm,Zno,ZRp] [] [] []) (.n (.n (.n (.n (.f (.n (.f (.unroll 4 (.f (.n (.f (.f (.n (.n (.f (.n (.j [1,2,4,5,6,7,8,9,10,12,13] [] [.l (.sl 12) (.box 45 (.dat (.leaf 4))),.l (.sl 13) (.box 45 (.dat (.leaf 4)))] .no))))))))))))))))) Tryz.func98 [] (fun _=>by kernel_rfl) ⟨Z3o,Znm,ZBr,Zpu,Zgv,tr⟩)
end Go.Eng
set_option maxRecDepth 100000
set_option maxHeartbeats 4000000
namespace Go.Eng
open Go.Proofs Go.RowKit
noncomputable def ZPg:FuncId×Con:=(59,⟨[.pair (.leaf 4) (.pair (.leaf 4) (.pair (.leaf 4) (.leaf 4)))],[.int .i64],fun p=>Zld p⟩)
theorem ZUi:KQ ZPg:=Zh (Zt (C:=cf0 [ZZk,Zar,Zdn] [] [] []) (.n (.n (.n (.f (.cut ⟨⟨[1],[],[.s 3 (.dat (.int .i64))]⟩,[(.ret,⟨[],[],[.s 1000 (.dat (.int .i64))]⟩)]⟩ .no))))) Tryz.func59 [] (fun _=>by kernel_rfl) ⟨ZDn,Z1x,Z3o,tr⟩)
end Go.Eng
set_option maxRecDepth 100000
set_option maxHeartbeats 4000000
namespace Go.Eng
open Go.Proofs Go.RowKit
noncomputable def Zyj:FuncId×Con:=(58,⟨[.slice (.pair (.leaf 4) (.pair (.leaf 4) (.pair (.leaf 4) (.leaf 4))))],[.bool],fun p=>Z7f p⟩)
theorem ZOl:KQ Zyj:=Zh (Zt (C:=cf0 [ZPg] [] [] []) (.n (.f (.n (.f (.cut ⟨⟨[0],[],[.s 3 (.dat (.int .i64))]⟩,[(.exit 0,⟨[],[],[]⟩),(.ret,⟨[],[],[.s 1000 (.dat .bool)]⟩)]⟩ .no))))) Tryz.func58 [] (fun _=>by kernel_rfl) ⟨ZUi,tr⟩)
end Go.Eng
set_option maxRecDepth 100000
set_option maxHeartbeats 4000000
namespace Go.Eng
open Go.Proofs Go.RowKit
noncomputable def Zdl:FuncId×Con:=(61,⟨[.pair (.leaf 4) (.pair (.leaf 4) (.pair (.leaf 4) (.leaf 4))),.pair (.leaf 4) (.pair (.leaf 4) (.pair (.leaf 4) (.leaf 4)))],[.int .i64],fun p=>Zwe p.1 p.2⟩)
theorem Zwo:KQ Zdl:=Zh (Zt (C:=cf0 [ZPg,ZIf] [] [] []) .no Tryz.func61 [] (fun _=>by kernel_rfl) ⟨ZUi,Zpg,tr⟩)
end Go.Eng
set_option maxRecDepth 100000
set_option maxHeartbeats 4000000
namespace Go.Eng
open Go.Proofs Go.RowKit
noncomputable def ZLt:FuncId×Con:=(60,⟨[.slice (.slice (.pair (.leaf 4) (.pair (.leaf 4) (.pair (.leaf 4) (.leaf 4))))),.int .i64],[.slice (.pair (.leaf 4) (.pair (.leaf 4) (.pair (.leaf 4) (.leaf 4))))],fun p=>ZDk p.1 p.2⟩)
theorem Zyy:KQ ZLt:=Zh (Zt (C:=cf0 [] [] [] []) (.n (.n (.f (.n (.f (.l [0,1] [] [.s 5 (.own 47 (.pair (.leaf 4) (.pair (.leaf 4) (.pair (.leaf 4) (.leaf 4))))),.s 6 (.dat (.int .i64))] 0 [] [] [.s 5 (.own 47 (.pair (.leaf 4) (.pair (.leaf 4) (.pair (.leaf 4) (.leaf 4)))))] .no)))))) Tryz.func60 [] (fun _=>by kernel_rfl))
end Go.Eng
set_option maxRecDepth 100000
set_option maxHeartbeats 4000000
namespace Go.Eng
open Go.Proofs Go.RowKit
noncomputable def Zij:FuncId×Con:=(75,⟨[.slice (.slice (.pair (.leaf 4) (.pair (.leaf 4) (.pair (.leaf 4) (.leaf 4)))))],[.int .i64],fun p=>Z1g p⟩)
theorem Zqm:KQ Zij:=Zh (Zt (C:=cf0 [] [] [] []) .no Tryz.func75 [] (fun _=>by kernel_rfl))
end Go.Eng
set_option maxRecDepth 100000
set_option maxHeartbeats 4000000
namespace Go.Eng
open Go.Proofs Go.RowKit
noncomputable def ZMs:FuncId×Con:=(106,⟨[.slice (.pair (.leaf 4) (.pair (.leaf 4) (.pair (.leaf 4) (.leaf 4)))),.slice (.pair (.leaf 4) (.pair (.leaf 4) (.pair (.leaf 4) (.leaf 4))))],[.slice (.pair (.leaf 4) (.pair (.leaf 4) (.pair (.leaf 4) (.leaf 4))))],fun p=>Zpk p.1 p.2⟩)
theorem ZRw:KQ ZMs:=Zh (Zt (C:=cf0 [ZIf] [] [] []) (.n (.n (.f (.n (.f (.l [0,1] [] [.s 5 (.own 47 (.pair (.leaf 4) (.pair (.leaf 4) (.pair (.leaf 4) (.leaf 4))))),.s 6 (.dat (.int .i64))] 0 [] [] [.s 5 (.own 47 (.pair (.leaf 4) (.pair (.leaf 4) (.pair (.leaf 4) (.leaf 4)))))] .no)))))) Tryz.func106 [] (fun _=>by kernel_rfl) ⟨Zpg,tr⟩)
end Go.Eng
set_option maxRecDepth 100000
set_option maxHeartbeats 4000000
namespace Go.Eng
open Go.Proofs Go.RowKit
noncomputable def ZSn:FuncId×Con:=(73,⟨[.slice (.slice (.pair (.leaf 4) (.pair (.leaf 4) (.pair (.leaf 4) (.leaf 4))))),.slice (.pair (.leaf 4) (.pair (.leaf 4) (.pair (.leaf 4) (.leaf 4)))),.slice (.pair (.leaf 4) (.pair (.leaf 4) (.pair (.leaf 4) (.leaf 4))))],[.bool],fun p=>Zwi p.1 p.2.1 p.2.2⟩)
theorem Z6q:KQ ZSn:=Zh (Zt (C:=cf0 [Zqk,Zyj,ZPg,ZLt,Zij,ZMs] [] [] []) (.n (.two (.f (.j [0,1,2] [] [.s 29 (.dat .bool)] .no)) (.f (.n (.f (.cut ⟨⟨[0,1,2],[],[.s 7 (.dat (.int .i64))]⟩,[(.exit 0,⟨[],[],[]⟩),(.ret,⟨[],[],[.s 1000 (.dat .bool)]⟩)]⟩ .no)))))) Tryz.func73 [] (fun _=>by kernel_rfl) ⟨Z1m,ZOl,ZUi,Zyy,Zqm,ZRw,tr⟩)
end Go.Eng
set_option maxRecDepth 100000
set_option maxHeartbeats 4000000
namespace Go.Eng
open Go.Proofs Go.RowKit
noncomputable def ZMr:FuncId×Con:=(30,⟨[.slice (.slice (.pair (.leaf 4) (.pair (.leaf 4) (.pair (.leaf 4) (.leaf 4))))),.slice (.pair (.leaf 4) (.pair (.leaf 4) (.pair (.leaf 4) (.leaf 4)))),.slice (.pair (.leaf 4) (.pair (.leaf 4) (.pair (.leaf 4) (.leaf 4)))),.bool,.slice (.pair (.leaf 4) (.pair (.leaf 4) (.pair (.leaf 4) (.leaf 4)))),.slice (.pair (.leaf 4) (.pair (.leaf 4) (.pair (.leaf 4) (.leaf 4)))),.slice (.pair (.leaf 4) (.pair (.leaf 4) (.pair (.leaf 4) (.leaf 4))))],[.bool],fun p=>ZKg p.1 p.2.1 p.2.2.1 p.2.2.2.1 p.2.2.2.2.1 p.2.2.2.2.2.1 p.2.2.2.2.2.2⟩)
theorem ZQv:KQ ZMr:=Zh (Zt (C:=cf0 [Zqk,Zgl,Zyj,ZPg,Zdl,ZSn,ZIf,Zij] [] [] []) (.n (.n (.two (.n (.f (.f (.j [] [] [.s 14 (.dat .bool)] .no)))) (.two (.f (.j [0,1,2,4] [] [.s 63 (.dat .bool)] .no)) (.f (.n (.f (.cut ⟨⟨[0,1,2,4],[],[.s 15 (.dat (.int .i64))]⟩,[(.exit 0,⟨[],[],[]⟩),(.ret,⟨[],[],[.s 1000 (.dat .bool)]⟩)]⟩ (.f (.n (.f (.f (.n (.f (.j [0,1,2,4,15] [] [.s 91 (.dat .bool)] .no))))))))))))))) Tryz.func30 [] (fun _=>by kernel_rfl) ⟨Z1m,Zpp,ZOl,ZUi,Zwo,Z6q,Zpg,Zqm,tr⟩)
end Go.Eng
set_option maxRecDepth 100000
set_option maxHeartbeats 4000000
namespace Go.Eng
open Go.Proofs Go.RowKit
noncomputable def Zdp:FuncId×Con:=(56,⟨[.pair (.leaf 4) (.pair (.leaf 4) (.pair (.leaf 4) (.leaf 4))),.pair (.leaf 4) (.pair (.leaf 4) (.pair (.leaf 4) (.leaf 4)))],[.bool],fun p=>ZSh p.1 p.2⟩)
theorem sSame_k:KQ Zdp:=Zh (Zt (C:=cf0 [ZZk,ZIf] [] [] []) .no Tryz.func56 [] (fun _=>by kernel_rfl) ⟨ZDn,Zpg,tr⟩)
end Go.Eng
set_option maxRecDepth 100000
set_option maxHeartbeats 4000000
namespace Go.Eng
open Go.Proofs Go.RowKit
noncomputable def Zws:FuncId×Con:=(31,⟨[.slice (.slice (.pair (.leaf 4) (.pair (.leaf 4) (.pair (.leaf 4) (.leaf 4))))),.slice (.pair (.leaf 4) (.pair (.leaf 4) (.pair (.leaf 4) (.leaf 4)))),.slice (.pair (.leaf 4) (.pair (.leaf 4) (.pair (.leaf 4) (.leaf 4)))),.pair (.leaf 4) (.pair (.leaf 4) (.pair (.leaf 4) (.leaf 4))),.slice (.pair (.leaf 4) (.pair (.leaf 4) (.pair (.leaf 4) (.leaf 4)))),.slice (.pair (.leaf 4) (.pair (.leaf 4) (.pair (.leaf 4) (.leaf 4)))),.slice (.pair (.leaf 4) (.pair (.leaf 4) (.pair (.leaf 4) (.leaf 4))))],[.bool],fun p=>Zjg p.1 p.2.1 p.2.2.1 p.2.2.2.1 p.2.2.2.2.1 p.2.2.2.2.2.1 p.2.2.2.2.2.2⟩)
theorem Zaw:KQ Zws:=Zh (Zt (C:=cf0 [Z8f,Zqk,Zgl,Zte,Zdp,Zyj,ZPg,Zdl,ZOj,Zwn,ZSn,ZIf,Zij,Zfo] [] [] []) (.n (.two (.f (.j [0,1,2,4,5,6,10] [] [.s 47 (.dat .bool)] .no)) (.two (.n (.f (.cut ⟨⟨[0,1,2,4,5,6,10],[],[.s 15 (.dat (.int .i64))]⟩,[(.exit 0,⟨[1,2,5,6,10],[],[]⟩),(.ret,⟨[],[],[.s 1000 (.dat .bool)]⟩)]⟩ (.f (.n (.f (.f (.n (.n (.n (.f (.j [0,1,2,4,5,6,10,15] [] [.s 87 (.dat .bool)] .no)))))))))))) (.n (.f (.j [] [] [.s 14 (.dat .bool)] .no)))))) Tryz.func31 [] (fun _=>by kernel_rfl) ⟨Z2g,Z1m,Zpp,Zyf,sSame_k,ZOl,ZUi,Zwo,ZMm,Zvp,Z6q,Zpg,Zqm,Zqo,tr⟩)
end Go.Eng
set_option maxRecDepth 100000
set_option maxHeartbeats 4000000
namespace Go.Eng
open Go.Proofs Go.RowKit
noncomputable def Zcy:FuncId×Con:=(4,⟨[.slice (.slice (.pair (.int .i64) (.int .i64))),.slice (.pair (.int .i64) (.int .i64)),.slice (.pair (.int .i64) (.int .i64)),.pair .bool (.pair (.pair (.int .i64) (.int .i64)) (.pair (.slice (.pair (.int .i64) (.int .i64))) (.pair (.slice (.pair (.int .i64) (.int .i64))) (.slice (.pair (.int .i64) (.int .i64))))))],[.bool],fun p=>Zxk p.1 p.2.1 p.2.2.1 p.2.2.2⟩)
theorem ZCw:KR Zcy:=Zt (C:=cf0 [ZVp,Z4r,Z7i,Z8f,Z1j,ZKj,ZKl,ZSj,Zul,ZZp,Zcp,ZMr,Zws] [] [] []) (.n (.two (.f (.j [0,1,2,7] [] [.s 48 (.dat .bool)] .no)) (.n (.n (.n (.n (.n (.n (.n (.n (.n (.f (.j [] [] [.s 8 (.dat .bool)] .no))))))))))))) Tryz.func4 [] (fun _=>by kernel_rfl) ⟨Z1u,Zvx,Zsn,Z2g,rof_k,Zho,Zxs,Zun,ZIt,Zkv,ZMu,ZQv,Zaw,tr⟩
theorem Z2u {w0:World} {v0:Zb} (hv:VIn v0 w0) {c0:List Value} {a:(List (List (Int×Int)))} (p0:Rep.rel (Zm (Zm (Zv (Zd .i64) (Zd .i64)))) v0 c0 a) {c1:List Value} {b:(List (Int×Int))} (p1:Rep.rel (Zm (Zv (Zd .i64) (Zd .i64))) v0 c1 b) {c2:List Value} {c:(List (Int×Int))} (p2:Rep.rel (Zm (Zv (Zd .i64) (Zd .i64))) v0 c2 c) {c3:List Value} {p:(Bool×(Int×Int)×(List (Int×Int))×(List (Int×Int))×(List (Int×Int)))} (p3:Rep.rel (Zv Ztb (Zv (Zv (Zd .i64) (Zd .i64)) (Zv (Zm (Zv (Zd .i64) (Zd .i64))) (Zv (Zm (Zv (Zd .i64) (Zd .i64))) (Zm (Zv (Zd .i64) (Zd .i64))))))) v0 c3 p) {z:Bool} (hm:Zxk a b c p=some z):Ret Tryz.prog 4 #[(Zm (Zm (Zv (Zd .i64) (Zd .i64)))).val c0,(Zm (Zv (Zd .i64) (Zd .i64))).val c1,(Zm (Zv (Zd .i64) (Zd .i64))).val c2,(Zv Ztb (Zv (Zv (Zd .i64) (Zd .i64)) (Zv (Zm (Zv (Zd .i64) (Zd .i64))) (Zv (Zm (Zv (Zd .i64) (Zd .i64))) (Zm (Zv (Zd .i64) (Zd .i64))))))).val c3] w0 v0 (fun y v'=>∃ r0,y=Ztb.val r0∧Ztb.rel v' r0 z):=(ZCw w0 v0 [(Zm (Zm (Zv (Zd .i64) (Zd .i64)))).val c0,(Zm (Zv (Zd .i64) (Zd .i64))).val c1,(Zm (Zv (Zd .i64) (Zd .i64))).val c2,(Zv Ztb (Zv (Zv (Zd .i64) (Zd .i64)) (Zv (Zm (Zv (Zd .i64) (Zd .i64))) (Zv (Zm (Zv (Zd .i64) (Zd .i64))) (Zm (Zv (Zd .i64) (Zd .i64))))))).val c3] (a,b,c,p) z hv ⟨c0,_,rfl,p0,c1,_,rfl,p1,c2,_,rfl,p2,c3,rfl,p3⟩ hm).2
end Go.Eng
