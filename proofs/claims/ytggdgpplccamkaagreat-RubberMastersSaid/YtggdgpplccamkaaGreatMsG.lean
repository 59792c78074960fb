/- Lemmas towards the statement: the engine of the walks, the functions' models, laws and walks, part 7. Conditions: as each states. -/
import Derived.Shelf.Strings.Builder1
import Derived.Shelf.Strings.Repeat
import Derived.Test.YtggdgpplccamkaaGreatProg
import Derived.Test.YtggdgpplccamkaaGreatMsF
set_option linter.all false
set_option maxRecDepth 100000
namespace Go.Eng
open Go.RowKit
def endO (ty:TypeId) (t:T) (c:V) (l:Lo):Option (List t.den):=match c with
 | .cons (.own u) .nl=>match lkE l u with
  | some ⟨_,_,.own ty' t' xs false⟩=>match Nat.beq ty' ty with
   | true=>Zuc t' t xs
   | false=>none
  | _=>none
 | _=>none
def Zam (C:Cf) (inl:Inl) (fn:Func) (ann:Ann) (ats:List T) (ty:TypeId) (t:T) (x:ZG ats):Option (List t.den):=match fn.body with
 | some c=>ZNb C (ZJf C inl 20) fn.results.toList 0 fn.ntmps c _ ann (ZXb 0 0 (Zzc ats x)) [] 1 ⟨λ_ _ _=>none,λ_ _ _ _=>none,λc l _=>endO ty t c l⟩
 | none=>none
theorem ZjC {C:Cf} (hC:CfOK C) {inl:Inl} (hinl:ZKc C inl) {f:FuncId} {fn:Func} {ann:Ann} {ats:List T} {ty:TypeId} {t:T} {x:ZG ats} {z:List t.den} (hf:C.P.funcs[f]? = some fn) (hl:Nat.ble ats.length fn.ntmps=true) (h:Zam C inl fn ann ats ty t x=some z)
  {w:World} {v:Zb} {vals:List Value} (hv:VIn v w) (ha:ZTa v ats vals x):RetO C.P f vals.toArray w v λy v' w'=>OwnR t.rep ty t.n z w y v' w':=by
 unfold Zam at h;split at h
 ·rename_i c hc;obtain⟨h1,h2,h3⟩:=ZMg (γ:=λ_=>.box 0) (l:=[]) (U:=(· < 0)) ha;have hK:vals.length≤fn.ntmps:=by rw[h3];exact lB hl
  refine ZNl hv hf hc rfl hK λa hS=>?_;have hr:RelX fn.ntmps (λ_ _=>False) w v (· < 1) (· < 1) (ZXb 0 0 (Zzc ats x)) [] a w (λ_=>.box 0) v []:=by
   refine⟨⟨hS.size,hS.dfr,λt x h=>(by cases h),hS.ext,hS.vst,hS.loc,hS.nd⟩,λt e he=>?_,⟨[],trivial,List.Perm.refl _⟩,List.nodup_nil,λt e he=>?_,λe he=>(by cases he),λx y h=>h.elim⟩
   ·obtain⟨y,q1,q2,q3,q4,q5⟩:=ZQc h1 h2 he;have:=hS.fr t y ?_
    ·rw[this];exact q3
    ·have q2:vals[t-0]? = some y:=q2;have:=Z2i (k:=0) (t:=t) (y:=y) (by simpa using q2)
     rwa [Nat.zero_add]at this
   ·obtain⟨y,q1,q2,q3,q4,q5⟩:=ZQc h1 h2 he;exact⟨V.ok.mono (λk h=>absurd h (Nat.not_lt_zero k)) q4,by show e.st<1;omega⟩
  refine ZZj hC (Zsk hC hinl 20) c h ⟨_,_,_,hr⟩ ⟨λf' l' n' a' w' hp hn' ho' hr'=>(by cases hp),λi f' l' n' a' w' hp hn' ho' hr'=>(by cases hp),λc l' n' a' w' hp hn' ho' hr'=>?_⟩;obtain⟨γ',v',ℓ',vals',hr',hc',hk',hres⟩:=hr';have hp:endO ty t c l'=some z:=hp;unfold endO at hp;split at hp
  ·rename_i u;split at hp
   ·rename_i kk st ty' t' xs he;split at hp
    ·rename_i hty;have hty:=eQ hty;subst hty;obtain⟨e1,e2⟩:=Zfa hp
     cases e1;cases e2
     obtain⟨c1,xs1,rfl,⟨y,rfl,_,hy⟩,hx1⟩:=hc';have hx1:xs1=[]:=hx1;subst hx1;obtain⟨ob,cap,g1,rfl⟩:=hy _ he;obtain⟨hkk,es,hes,hmem⟩:=hr'.loc he;have hkk:kk=_:=hkk;subst hkk;obtain⟨ob',cap',cs,q1,q2,rfl⟩:=hes;have q1:γ' kk = .own ob' cap':=q1;rw[g1]at q1;cases q1;obtain⟨jj,hj⟩:=hmem _ List.mem_cons_self;obtain⟨hh,hb⟩:=hr'.st.loc _ (mG hj);refine⟨hr'.st.dfr,_,Zlg hres,_,v',rfl,hr'.st.ext.ext,hr'.st.vst.ext,ob,_,cap,cs,rfl,hh,λb e=>?_,q2,rfl⟩;obtain⟨h1,h2⟩:=hb b e;rcases h1 with h1 | h1
     ·exact⟨h1,h2⟩
     ·cases h1
    ·cases hp
   ·cases hp
  ·cases hp
 ·cases h
theorem cono_k {C:Cf} (hc:CL C.P C.cons) (ho:OL C.P C.owns) (hi:IL C.P C.ins) (hm:ML C.P C.meths) {inl:Inl} (hn:NL C.P inl) {f:FuncId} {fn:Func} {ann:Ann} {con:ConO} (hf:C.P.funcs[f]? = some fn) (hen:ZI C.P f) (hl:Nat.ble con.args.length fn.ntmps=true)
  (h:∀ x z,con.F x=some z→Zam C inl fn ann con.args con.ty con.t x=some z) (hq:QL C.P C.omats:=by exact trivial) (hb:BL C.P C.boxs:=by exact trivial) (hd:DL C.P C.dels:=by exact trivial) (hpo:PL C.P C.pows:=by exact trivial):ZHf C.P f con :=
 λ_ _ _ x z hv ha hz=>⟨hen,ZjC (CfOK.of hc ho hi hm hq hb hd hpo) (ZKc.of hn) hf hl (h x z hz) hv ha⟩
def endM (ty ty2:TypeId) (t:T) (c:V) (l:Lo):Option (List (List t.den)):=match c with
 | .cons (.own u) .nl=>match lkE l u with
  | some ⟨_,_,.mat ty' ty2' t' m _⟩=>match Nat.beq ty' ty,Nat.beq ty2' ty2 with
   | true,true=>Z0b t' t m
   | _,_=>none
  | _=>none
 | _=>none
def Zlk (C:Cf) (inl:Inl) (fn:Func) (ann:Ann) (ats:List T) (ty ty2:TypeId) (t:T) (x:ZG ats):Option (List (List t.den)):=match fn.body with
 | some c=>ZNb C (ZJf C inl 20) fn.results.toList 0 fn.ntmps c _ ann (ZXb 0 0 (Zzc ats x)) [] 1 ⟨λ_ _ _=>none,λ_ _ _ _=>none,λc l _=>endM ty ty2 t c l⟩
 | none=>none
theorem ZWy {ℓ es:List Loc} {E:List Loc} (h:(ℓ.filterMap Loc.blk).Nodup) (hp:ℓ.Perm (es++E)):(es.filterMap Loc.blk).Nodup:=by
 have h1:=(hp.filterMap Loc.blk).nodup_iff.1 h;rw[List.filterMap_append]at h1;exact (List.nodup_append.1 h1).1
theorem Z2x {C:Cf} (hC:CfOK C) {inl:Inl} (hinl:ZKc C inl) {f:FuncId} {fn:Func} {ann:Ann} {ats:List T} {ty ty2:TypeId} {t:T} {x:ZG ats} {z:List (List t.den)} (hf:C.P.funcs[f]? = some fn) (hl:Nat.ble ats.length fn.ntmps=true) (h:Zlk C inl fn ann ats ty ty2 t x=some z)
  {w:World} {v:Zb} {vals:List Value} (hv:VIn v w) (ha:ZTa v ats vals x):RetO C.P f vals.toArray w v (OwnM ty ty2 t z w):=by
 unfold Zlk at h;split at h
 ·rename_i c hc;obtain⟨h1,h2,h3⟩:=ZMg (γ:=λ_=>.box 0) (l:=[]) (U:=(· < 0)) ha;have hK:vals.length≤fn.ntmps:=by rw[h3];exact lB hl
  refine ZNl hv hf hc rfl hK λa hS=>?_;have hr:RelX fn.ntmps (λ_ _=>False) w v (· < 1) (· < 1) (ZXb 0 0 (Zzc ats x)) [] a w (λ_=>.box 0) v []:=by
   refine⟨⟨hS.size,hS.dfr,λt x h=>(by cases h),hS.ext,hS.vst,hS.loc,hS.nd⟩,λt e he=>?_,⟨[],trivial,List.Perm.refl _⟩,List.nodup_nil,λt e he=>?_,λe he=>(by cases he),λx y h=>h.elim⟩
   ·obtain⟨y,q1,q2,q3,q4,q5⟩:=ZQc h1 h2 he;have:=hS.fr t y ?_
    ·rw[this];exact q3
    ·have q2:vals[t-0]? = some y:=q2;have:=Z2i (k:=0) (t:=t) (y:=y) (by simpa using q2)
     rwa [Nat.zero_add]at this
   ·obtain⟨y,q1,q2,q3,q4,q5⟩:=ZQc h1 h2 he;exact⟨V.ok.mono (λk h=>absurd h (Nat.not_lt_zero k)) q4,by show e.st<1;omega⟩
  refine ZZj hC (Zsk hC hinl 20) c h ⟨_,_,_,hr⟩ ⟨λf' l' n' a' w' hp hn' ho' hr'=>(by cases hp),λi f' l' n' a' w' hp hn' ho' hr'=>(by cases hp),λc l' n' a' w' hp hn' ho' hr'=>?_⟩;obtain⟨γ',v',ℓ',vals',hr',hc',hk',hres⟩:=hr';have hp:endM ty ty2 t c l'=some z:=hp;unfold endM at hp;split at hp
  ·rename_i u;split at hp
   ·rename_i kk st ty' ty2' t' m' hv' he;split at hp
    ·rename_i hty hty2;have hty:=eQ hty;have hty2:=eQ hty2;subst hty hty2;obtain⟨e1,e2⟩:=Zfa hp
     cases e1;cases e2
     obtain⟨c1,xs1,rfl,⟨y,rfl,_,hy⟩,hx1⟩:=hc';have hx1:xs1=[]:=hx1;subst hx1;obtain⟨ob,cap,rows0,g1,rfl⟩:=hy _ he;obtain⟨E,hE,hpm⟩:=hr'.lr;obtain⟨es,E',r1,r2,r3⟩:=ZRg hE he;obtain⟨ob',cap',rows,es2,q1,q2,rfl⟩:=r1;have hkk:kk=_:=(Zv he).2;subst hkk;have q1:γ' kk = .mat ob' cap' rows:=q1;rw[g1]at q1;cases q1;refine⟨hr'.st.dfr,_,Zlg hres,_,v',rfl,hr'.st.ext.ext,hr'.st.vst.ext,_,_,_,es2,rfl,q2,λx hx=>?_,ZWy hr'.st.nd (hpm.trans r3)⟩;obtain⟨hh,hb⟩:=hr'.st.loc x ((hpm.trans r3).mem_iff.2 (List.mem_append_left _ hx));refine⟨hh,λb e=>?_⟩;obtain⟨h1,h2⟩:=hb b e;rcases h1 with h1 | h1
     ·exact⟨h1,h2⟩
     ·cases h1
    ·cases hp
   ·cases hp
  ·cases hp
 ·cases h
theorem conm_k {C:Cf} (hc:CL C.P C.cons) (ho:OL C.P C.owns) (hi:IL C.P C.ins) (hm:ML C.P C.meths) {inl:Inl} (hn:NL C.P inl) {f:FuncId} {fn:Func} {ann:Ann} {con:ConM} (hf:C.P.funcs[f]? = some fn) (hen:ZI C.P f) (hl:Nat.ble con.args.length fn.ntmps=true)
  (h:∀ x z,con.F x=some z→Zlk C inl fn ann con.args con.ty con.ty2 con.t x=some z) (hq:QL C.P C.omats:=by exact trivial) (hb:BL C.P C.boxs:=by exact trivial) (hd:DL C.P C.dels:=by exact trivial) (hpo:PL C.P C.pows:=by exact trivial):Zii C.P f con :=
 λ_ _ _ x z hv ha hz=>⟨hen,Z2x (CfOK.of hc ho hi hm hq hb hd hpo) (ZKc.of hn) hf hl (h x z hz) hv ha⟩
def endB (ty:TypeId) (c:CT) (rts:List T) (cv:V) (l:Lo) (n:Nat):Option (c.den×ZG rts):=Z6a n (ZXd rts cv λy=>Zpd 0 (.box ty c) 0 λz=>.done (z,y)) [] l λr _ _=>some r
def Zek (C:Cf) (inl:Inl) (fn:Func) (ann:Ann) (ty:TypeId) (c:CT) (ats rts:List T) (z:c.den) (x:ZG ats):Option (c.den×ZG rts):=match fn.body with
 | some cd=>match Zma 0 (.box ty c) z 0 1 with
  | (l,m)=>ZNb C (ZJf C inl 20) fn.results.toList m fn.ntmps cd _ ann (ZXb 0 0 (.cons (.ptr 0 0) (Zzc ats x))) l m ⟨endN fn (endB ty c rts),λ_ _ _ _=>none,endB ty c rts⟩
 | none=>none
theorem ZQy {C:Cf} (hC:CfOK C) {inl:Inl} (hinl:ZKc C inl) {f:FuncId} {fn:Func} {ann:Ann} {ty:TypeId} {c:CT} {ats rts:List T} {z:c.den} {x:ZG ats} {r:c.den×ZG rts} (hf:C.P.funcs[f]? = some fn) (hl:Nat.ble (ats.length+1) fn.ntmps=true) (h:Zek C inl fn ann ty c ats rts z x=some r)
  {w:World} {v:Zb} {b:Nat} {es:List Loc} {vals:List Value} (hv:VIn v w) (hz:CRL v (.box ty c) z (.box b) es) (hes:∀ e ∈ es,e.holds w∧∀ k,e.blk=some k→v k=none) (hnd:(es.filterMap Loc.blk).Nodup) (ha:ZTa v ats vals x) :
  Zzd C.P f (Value.pointer (some ⟨b,0,none⟩) :: vals).toArray w v (es.filterMap Loc.blk) (OwnB ty c rts b r (es.filterMap Loc.blk) w):=by
 unfold Zek at h;split at h
 ·rename_i cd hc;obtain⟨k1,k2,k3,γ0,k4,k5⟩:=Zdn (hh:=0) (u:=0) (n:=1) hz (by omega) (by omega) (l2:=(Zma 0 (.box ty c) z 0 1).1) (n2:=(Zma 0 (.box ty c) z 0 1).2) rfl;have hkk:∀ e ∈ (Zma 0 (.box ty c) z 0 1).1,lkE (Zma 0 (.box ty c) z 0 1).1 e.k=some e:=λe he=>Zre k3 he;obtain⟨E,hE,hpE⟩:=k5 γ0 _ λe he=>⟨rfl,hkk e he⟩;have hhd:∀ e,lkE (Zma 0 (.box ty c) z 0 1).1 0=some e→∃ xh,e.x = .box ty xh:=λe he=>by
   obtain⟨hm,hk0⟩:=Zv he;rcases (k2 e hm).1 with ⟨_,q⟩ | q
   ·exact q
   ·omega
  have h:ZNb C (ZJf C inl 20) fn.results.toList (Zma 0 (.box ty c) z 0 1).2 fn.ntmps cd _ ann (ZXb 0 0 (.cons (.ptr 0 0) (Zzc ats x))) (Zma 0 (.box ty c) z 0 1).1 (Zma 0 (.box ty c) z 0 1).2 _=some r:=h;generalize (Zma 0 (.box ty c) z 0 1).1=lI at k2 k3 hE hkk hhd h;generalize (Zma 0 (.box ty c) z 0 1).2=m at k1 k2 h;have hargs:RR v γ0 lI true (.cons (.ptr 0 0) (Zzc ats x)) (Value.pointer (some ⟨b,0,none⟩) :: vals):=by
   obtain⟨q1,q2,q3⟩:=ZMg (γ:=γ0) (l:=lI) (U:=(· < 0)) ha;refine⟨[.pointer (some ⟨b,0,none⟩)],vals,rfl,⟨_,rfl,rfl,λe he=>?_⟩,q1⟩;obtain⟨xh,hx⟩:=hhd e he;rw[hx];exact⟨b,k4,rfl⟩
  have hok:(V.cons (.ptr 0 0) (Zzc ats x)).ok (· < m):=⟨(show 0<m by omega),V.ok.mono (λk h=>absurd h (Nat.not_lt_zero k)) (ZMg (γ:=γ0) (l:=lI) (U:=(· < 0)) ha).2.1⟩;have hlen:=(ZMg (γ:=γ0) (l:=lI) (U:=(· < 0)) ha).2.2;have hK:vals.length+1≤fn.ntmps:=by rw[hlen];exact lB hl
  refine calls_of_wp hf hc ?_;have hS:=St.enter (K:=fn.ntmps) hv (Value.pointer (some ⟨b,0,none⟩) :: vals) (by simpa using hK);have hlent:∀ e ∈ es,∀ k,e.blk=some k→k ∈ es.filterMap Loc.blk:=λe he k hk=>List.mem_filterMap.2 ⟨e,he,hk⟩;have hr:RelX fn.ntmps (λx y=>x = .ptr 0 0∧y = .pointer (some ⟨b,0,none⟩)) ⟨w,es.filterMap Loc.blk⟩ v (· < m) (· < m) (ZXb 0 0 (.cons (.ptr 0 0) (Zzc ats x))) lI { tmps:=(Value.pointer (some ⟨b,0,none⟩) :: vals).toArray++Array.replicate (fn.ntmps-(Value.pointer (some ⟨b,0,none⟩) :: vals).toArray.size) undef,defers:=[] } w γ0 v es:=by
   refine⟨⟨hS.size,hS.dfr,λt x h=>(by cases h),ExtB.refl ⟨w,es.filterMap Loc.blk⟩,⟨Zb.le_refl _,hv,λ_ _ _=>rfl⟩,λe he=>⟨(hes e he).1,λk hk=>⟨.inr (hlent e he k hk),(hes e he).2 k hk⟩⟩,hnd⟩,λt e he=>?_,⟨E,hE,hpE⟩,k3,λt e he=>?_,λe he=>?_,λx y hg=>?_⟩
   ·obtain⟨y,q1,q2,q3,q4,q5⟩:=ZQc hargs hok he;have:=hS.fr t y ?_
    ·rw[this];exact q3
    ·have:=Z2i (k:=0) (t:=t) (y:=y) (by simpa using q2)
     rwa [Nat.zero_add]at this
   ·obtain⟨y,q1,q2,q3,q4,q5⟩:=ZQc hargs hok he;exact⟨q4,by show e.st<m;omega⟩
   ·obtain⟨q1,q2,q3,q4⟩:=k2 e he;refine⟨?_,q3,q4⟩;rcases q1 with ⟨q1,_⟩ | q1
    ·show e.k<m;omega
    ·exact q1.2
   ·obtain⟨rfl,rfl⟩:=hg;obtain⟨c1,xs1,q1,q2,q3⟩:=hargs;obtain⟨yy,rfl,q4⟩:=q2;have q1:Value.pointer (some ⟨b,0,none⟩)=yy:=(List.cons.inj q1).1;subst q1;exact⟨⟨_,⟨_,rfl,q4⟩,rfl⟩,(show 0<m by omega)⟩
  have fin:∀ {cv:V} {l':Lo} {n':Nat} {a':Act} {w':World} {γ':Nat→Gh} {v':Zb} {ℓ':List Loc} {vals':List Value},endB ty c rts cv l' n'=some r→m≤n'→RelX fn.ntmps (λx y=>x = .ptr 0 0∧y = .pointer (some ⟨b,0,none⟩)) ⟨w,es.filterMap Loc.blk⟩ v (· < n') (· < n') [] l' a' w' γ' v' ℓ'→RR v' γ' l' true cv vals'→cv.ok (· < n') →
    ∃ v2,ExtB ⟨w,es.filterMap Loc.blk⟩ w'∧VStepB ⟨w,es.filterMap Loc.blk⟩ v w' v2∧OwnB ty c rts b r (es.filterMap Loc.blk) w (ZMf vals') v2 w':=by
   intro cv l' n' a' w' γ' v' ℓ' vals' hx hmn hr' hcv hck;have h1:=ZPh hx;have hr1:RelX fn.ntmps (λx y=>x = .ptr 0 0∧y = .pointer (some ⟨b,0,none⟩)) ⟨w,es.filterMap Loc.blk⟩ v (· < n') (· < n'+1) [] l' a' w' γ' v' ℓ':=hr'.mono (λ_ h=>h) λk h=>(show k<n'+1 by have:k<n':=h;omega);obtain⟨y,l1,γ1,v1,ℓ1,h2,r1,le1,q1⟩:=Z5f (U:=(· < n')) (X:=(· < n'+1)) (Nat.lt_irrefl n') (Nat.lt_succ_self n') h1 hr1 hck;obtain⟨z2,l2,γ2,v2,ℓ2,es2,e0,h3,r2,hst,le2,hcrl,he0,hnone,hhead⟩:=ZFn (U:=(· < n')) (X:=(· < n'+1)) (Nat.lt_irrefl n') (Nat.lt_succ_self n') (ex:=[]) (show 0<n' by omega) h2 r1 r1.st;have h3:some (z2,y)=some r:=h3
   cases h3
   have hst:St fn.ntmps ⟨w,es.filterMap Loc.blk⟩ v [] (es2++ℓ2) v2 a' w':=hst;obtain⟨b2,c1,e1,hg,hcr,hpl,hes2⟩:=hcrl;have hbb:b2=b:=by
    obtain⟨⟨cs,⟨yy,rfl,_,hy⟩,hyy⟩,_⟩:=r1.gh _ _ ⟨rfl,rfl⟩;have hyy:Value.pointer (some ⟨b,0,none⟩)=yy:=hyy;subst hyy;obtain⟨xh,hxh⟩:=hhead;have hy:=hy _ he0;rw[hxh]at hy;obtain⟨b3,t1,t2⟩:=hy;rw[hg]at t1;cases t1;cases t2;rfl
   subst hbb;refine⟨v2,hst.ext,hst.vst,Zht (ZXo le2.v (q1 _ hcv)),es2,⟨b2,c1,e1,rfl,hcr,hpl,hes2⟩,λe he=>?_,?_⟩
   ·exact hst.loc e (List.mem_append_left _ he)
   ·have:=hst.nd;rw[List.filterMap_append]at this;exact (List.nodup_append.1 this).1
  refine ZZj hC (Zsk hC hinl 20) cd h ⟨_,_,_,hr⟩ ⟨λf' l' n' a' w' hp hn' ho' hr'=>?_,λi f' l' n' a' w' hp hn' ho' hr'=>(by cases hp),λcv l' n' a' w' hp hn' ho' hr'=>?_⟩
  ·unfold endN at hp;split at hp
   ·rename_i hres;obtain⟨γ',v',ℓ',hr'⟩:=hr';have hr2:RelX fn.ntmps (λx y=>x = .ptr 0 0∧y = .pointer (some ⟨b,0,none⟩)) ⟨w,es.filterMap Loc.blk⟩ v (· < n') (· < n') [] l' a' w' γ' v' ℓ':=⟨⟨hr'.st.size,hr'.st.dfr,λt x h=>(by cases h),hr'.st.ext,hr'.st.vst,hr'.st.loc,hr'.st.nd⟩,λt e he=>(by cases he),hr'.lr,hr'.nd,λt e he=>(by cases he),hr'.ul,hr'.gh⟩;obtain⟨v2,t1,t2,t3⟩:=fin hp hn' hr2 (vals':=[]) rfl trivial;exact⟨hr'.st.dfr,_,Zlg (vals:=[]) (by rw[hres];exact trivial),_,v2,rfl,t1,t2,t3⟩
   ·cases hp
  ·obtain⟨γ',v',ℓ',vals',hr',hc',hk',hres⟩:=hr';obtain⟨v2,t1,t2,t3⟩:=fin hp hn' hr' hc' hk';exact⟨hr'.st.dfr,_,Zlg hres,_,v2,rfl,t1,t2,t3⟩
 ·cases h
theorem conb_k {C:Cf} (hc:CL C.P C.cons) (ho:OL C.P C.owns) (hi:IL C.P C.ins) (hm:ML C.P C.meths) {inl:Inl} (hn:NL C.P inl) {f:FuncId} {fn:Func} {ann:Ann} {con:ConB} (hf:C.P.funcs[f]? = some fn) (hen:ZI C.P f) (hl:Nat.ble (con.args.length+1) fn.ntmps=true)
  (h:∀ z x r,con.F z x=some r→Zek C inl fn ann con.ty con.c con.args con.res z x=some r) (hq:QL C.P C.omats:=by exact trivial) (hb:BL C.P C.boxs:=by exact trivial) (hd:DL C.P C.dels:=by exact trivial) (hpo:PL C.P C.pows:=by exact trivial):ZQg C.P f con :=
 λ_ _ _ _ _ z x r hv hz hes hnd ha hF=>⟨hen,ZQy (CfOK.of hc ho hi hm hq hb hd hpo) (ZKc.of hn) hf hl (h z x r hF) hv hz hes hnd ha⟩
theorem tr:True:=trivial
abbrev Ann.n (a:Ann):Ann:=.two .no a
abbrev Ann.f (a:Ann):Ann:=.two a .no
abbrev Ann.j (s:List Nat) (p:List Pl) (v:List Vr) (a:Ann):Ann:=.cut ⟨⟨[],[],[]⟩,[(.norm,⟨s,p,v⟩)]⟩ a
abbrev Ann.r (s:List Nat) (p:List Pl) (v:List Vr) (a:Ann):Ann:=.cut ⟨⟨[],[],[]⟩,[(.ret,⟨s,p,v⟩)]⟩ a
abbrev Ann.l (s:List Nat) (p:List Pl) (v:List Vr) (k:Nat) (s':List Nat) (p':List Pl) (v':List Vr) (a:Ann):Ann:=.cut ⟨⟨s,p,v⟩,[(.exit k,⟨s',p',v'⟩)]⟩ a
def ConR (P:Program) (f:FuncId) (c:Con):Prop:=∀ (w:World) (v:Zb) (vals:List Value) (x:ZG c.args) (z:ZG c.res),VIn v w→ZTa v c.args vals x→c.F x=some z→ZI P f∧Ret P f vals.toArray w v λy v'=>ZWe v' c.res y z
theorem Zl {P:Program} {f:FuncId} {c:Con} (h:ConR P f c):Zpe P f c:=λw v vals x z hv ha hz=>.inl (h w v vals x z hv ha hz)
theorem ZM {f:FuncId} {ats rts:List T} {F:ZG ats→Option (ZG rts)} {C:Cf} (ann:Ann) {fn:Func} (hf:C.P.funcs[f]? = some fn) (inl:Inl) (h:∀ x,Zrj C inl fn ann ats rts x=F x) (hc:CL C.P C.cons:=by exact tr) (ho:OL C.P C.owns:=by exact tr) (hm:ML C.P C.meths:=by exact tr) (hn:NL C.P inl:=by exact tr)
  (hq:QL C.P C.omats:=by exact tr) (hb:BL C.P C.boxs:=by exact tr) (hd:DL C.P C.dels:=by exact tr) (hpo:PL C.P C.pows:=by exact tr) (hi:IL C.P C.ins:=by exact tr) (hen:ZI C.P f:=by exact λ_ _=>by kernel_rfl) (hl:Nat.ble ats.length fn.ntmps=true:=by exact rfl):ConR C.P f ⟨ats,rts,F⟩ :=
 λ_ _ _ x _ hv ha hz=>⟨hen,Zdp (CfOK.of hc ho hi hm hq hb hd hpo) (ZKc.of hn) hf hl ((h x).trans hz) hv ha⟩
theorem ZF {f:FuncId} {ats rts:List T} {F:ZG ats→Option (ZG rts)} {C:Cf} (ann:Ann) {fn:Func} (hf:C.P.funcs[f]? = some fn) (inl:Inl) (h:∀ v vals x z,ZTa v ats vals x→F x=some z→Zrj C inl fn ann ats rts x=some z) (hc:CL C.P C.cons:=by exact tr) (ho:OL C.P C.owns:=by exact tr) (hm:ML C.P C.meths:=by exact tr) (hn:NL C.P inl:=by exact tr)
  (hq:QL C.P C.omats:=by exact tr) (hb:BL C.P C.boxs:=by exact tr) (hd:DL C.P C.dels:=by exact tr) (hpo:PL C.P C.pows:=by exact tr) (hi:IL C.P C.ins:=by exact tr) (hen:ZI C.P f:=by exact λ_ _=>by kernel_rfl) (hl:Nat.ble ats.length fn.ntmps=true:=by exact rfl):ConR C.P f ⟨ats,rts,F⟩ :=
 λ_ v vals x z hv ha hz=>⟨hen,Zdp (CfOK.of hc ho hi hm hq hb hd hpo) (ZKc.of hn) hf hl (h v vals x z ha hz) hv ha⟩
theorem Z1l {f:FuncId} {ax rs:List T} {F:ZG ax→Option (ZG rs)} {C:Cf} (ann:Ann) {fn:Func} (hf:C.P.funcs[f]? = some fn) (inl:Inl) (ats rts:List T) (gA:ZG ax→ZG ats) (gR:ZG rs→ZG rts) (h:∀ v vals x z,ZTa v ax vals x→F x=some z→Zrj C inl fn ann ats rts (gA x)=some (gR z))
  (hc:CL C.P C.cons:=by exact tr) (ho:OL C.P C.owns:=by exact tr) (hm:ML C.P C.meths:=by exact tr) (hn:NL C.P inl:=by exact tr)
  (hA:∀ v vals x,ZTa v ax vals x→ZTa v ats vals (gA x):=by exact λ_ _ _ h=>h) (hR:∀ v y z,ZWe v rts y (gR z)→ZWe v rs y z:=by exact λ_ _ _ h=>h)
  (hq:QL C.P C.omats:=by exact tr) (hb:BL C.P C.boxs:=by exact tr) (hd:DL C.P C.dels:=by exact tr) (hpo:PL C.P C.pows:=by exact tr) (hi:IL C.P C.ins:=by exact tr) (hen:ZI C.P f:=by exact λ_ _=>by kernel_rfl) (hl:Nat.ble ats.length fn.ntmps=true:=by exact rfl):ConR C.P f ⟨ax,rs,F⟩ :=
 λ_ v vals x z hv ha hz=>⟨hen,(Zdp (CfOK.of hc ho hi hm hq hb hd hpo) (ZKc.of hn) hf hl (h v vals x z ha hz) hv (hA v vals x ha)).mono λy v' _ hy=>hR v' y z hy⟩
theorem ZBq {f:FuncId} {ats:List T} {ty:TypeId} {t:T} {F:ZG ats→Option (List t.den)} {C:Cf} (ann:Ann) {fn:Func} (hf:C.P.funcs[f]? = some fn) (inl:Inl) (h:∀ x,Zam C inl fn ann ats ty t x=F x) (hc:CL C.P C.cons:=by exact tr) (ho:OL C.P C.owns:=by exact tr) (hm:ML C.P C.meths:=by exact tr) (hn:NL C.P inl:=by exact tr)
  (hq:QL C.P C.omats:=by exact tr) (hb:BL C.P C.boxs:=by exact tr) (hd:DL C.P C.dels:=by exact tr) (hpo:PL C.P C.pows:=by exact tr) (hi:IL C.P C.ins:=by exact tr) (hen:ZI C.P f:=by exact λ_ _=>by kernel_rfl) (hl:Nat.ble ats.length fn.ntmps=true:=by exact rfl):ZHf C.P f ⟨ats,ty,t,F⟩ :=
 cono_k hc ho hi hm hn hf hen hl (λx _ hz=>(h x).trans hz) hq hb hd hpo
theorem conm_z {f:FuncId} {ats:List T} {ty ty2:TypeId} {t:T} {F:ZG ats→Option (List (List t.den))} {C:Cf} (ann:Ann) {fn:Func} (hf:C.P.funcs[f]? = some fn) (inl:Inl) (h:∀ x,Zlk C inl fn ann ats ty ty2 t x=F x) (hc:CL C.P C.cons:=by exact tr) (ho:OL C.P C.owns:=by exact tr) (hm:ML C.P C.meths:=by exact tr) (hn:NL C.P inl:=by exact tr)
  (hq:QL C.P C.omats:=by exact tr) (hb:BL C.P C.boxs:=by exact tr) (hd:DL C.P C.dels:=by exact tr) (hpo:PL C.P C.pows:=by exact tr) (hi:IL C.P C.ins:=by exact tr) (hen:ZI C.P f:=by exact λ_ _=>by kernel_rfl) (hl:Nat.ble ats.length fn.ntmps=true:=by exact rfl):Zii C.P f ⟨ats,ty,ty2,t,F⟩ :=
 conm_k hc ho hi hm hn hf hen hl (λx _ hz=>(h x).trans hz) hq hb hd hpo
theorem Z2g {f:FuncId} {ty:TypeId} {c:CT} {ats rts:List T} {F:c.den→ZG ats→Option (c.den×ZG rts)} {C:Cf} (ann:Ann) {fn:Func} (hf:C.P.funcs[f]? = some fn) (inl:Inl) (h:∀ z x,Zek C inl fn ann ty c ats rts z x=F z x) (hc:CL C.P C.cons:=by exact tr) (ho:OL C.P C.owns:=by exact tr) (hm:ML C.P C.meths:=by exact tr) (hn:NL C.P inl:=by exact tr)
  (hq:QL C.P C.omats:=by exact tr) (hb:BL C.P C.boxs:=by exact tr) (hd:DL C.P C.dels:=by exact tr) (hpo:PL C.P C.pows:=by exact tr) (hi:IL C.P C.ins:=by exact tr) (hen:ZI C.P f:=by exact λ_ _=>by kernel_rfl) (hl:Nat.ble (ats.length+1) fn.ntmps=true:=by exact rfl):ZQg C.P f ⟨ty,c,ats,rts,F⟩ :=
 conb_k hc ho hi hm hn hf hen hl (λz x _ hz=>(h z x).trans hz) hq hb hd hpo
end Go.Eng
namespace Go.Eng
open Go.Proofs Go.RowKit
abbrev lf:List (TypeId×Nat):=[(34,0),(36,2),(38,3),(62,1),(64,4)]
noncomputable abbrev cf0 (c:List (FuncId×Con)) (m:List Nat) (o:List (FuncId×ConO)) (s:List ((TypeId×String)×FuncId)):Cf:=⟨Tryz.prog,lf,c,m,o,[],s,{}⟩
noncomputable abbrev cf2 (l:List (TypeId×Nat)) (c:List (FuncId×Con)):Cf:=⟨Tryz.prog,l,c,[],[],[],[],{}⟩
noncomputable abbrev cf1 (c:List (FuncId×Con)) (m:List Nat) (o:List (FuncId×ConO)) (s:List ((TypeId×String)×FuncId)) (q:List (FuncId×ConM)) (b:List (FuncId×ConB)) (d:List (FuncId×ConD)):Cf:=⟨Tryz.prog,lf,c,m,o,[],s,⟨[],q,b,d⟩⟩
abbrev KQ (q:FuncId×Con):=Zpe Tryz.prog q.1 q.2
abbrev KR (q:FuncId×Con):=ConR Tryz.prog q.1 q.2
abbrev KO (q:FuncId×ConO):=ZHf Tryz.prog q.1 q.2
abbrev KW (q:FuncId×ConM):=Zii Tryz.prog q.1 q.2
abbrev KB (q:FuncId×ConB):=ZQg Tryz.prog q.1 q.2
set_option maxHeartbeats 4000000
noncomputable def Ztf:FuncId×Con:=(91,⟨[.slice (.int .u64)],[.leaf 0],λp=>ZZa p⟩)
theorem cut_r:KR Ztf:=Z1l (C:=cf2 [] []) (.n (.f (.j [] [] [.s 0 (.dat (.slice (.int .u64)))] (.f (.l [] [] [.s 0 (.dat (.slice (.int .u64)))] 0 [] [] [.s 0 (.dat (.slice (.int .u64)))] (.f (.f (.f (.j [0] [] [.s 14 (.dat .bool)] .no))))))))) Tryz.func91 [] [.slice (.int .u64)] [.slice (.int .u64)] (λx=>(x)) (λz=>(Zc 18446744073709551616 z)) (λv vals x z ha hz=>by obtain⟨c0,e0,p0⟩:=ha;exact .trans (by kernel_rfl) (by cases hz;exact (cut_eq (ZPn p0).1 (ZPn p0).2)))
theorem Zgi:KQ Ztf:=Zl cut_r
noncomputable def Zxj:FuncId×Con:=(88,⟨[.int .u64],[.leaf 0],λp=>Ztc p⟩)
theorem Z9s:KR Zxj:=ZF (C:=cf2 [(34,0)] [Ztf]) .no Tryz.func88 [] (λv vals x z ha hz=>.trans (by kernel_rfl) (ZIC hz)) ⟨Zgi,tr⟩
theorem Zjn:KQ Zxj:=Zl Z9s
noncomputable def of_q:FuncId×Con:=(57,⟨[.int .i64],[.leaf 2],λp=>ofF p⟩)
theorem of_r:KR of_q:=ZF (C:=cf0 [Zxj] [] [] []) .no Tryz.func57 [] (λv vals x z ha hz=>by obtain⟨c0,e0,p0⟩:=ha;exact .trans (by kernel_rfl) (ofF_eq p0.2 hz)) ⟨Zjn,tr⟩
theorem of_k:KQ of_q:=Zl of_r
noncomputable def Z4h:FuncId×Con:=(23,⟨[.int .i64],[.leaf 3],λp=>Zpc p⟩)
theorem ZRi:KQ Z4h:=Zl (ZF (C:=cf0 [of_q] [] [] []) .no Tryz.func23 [] (λv vals x z ha hz=>.trans (by kernel_rfl) (Zhz hz)) ⟨of_k,tr⟩)
noncomputable def Zgs:FuncId×Con:=(83,⟨[.leaf 2],[.int .i64],λp=>ZOj p⟩)
theorem isign_k:KQ Zgs:=Zl (ZF (C:=cf0 [] [] [] []) .no Tryz.func83 [] (λv vals x z ha hz=>.trans (by kernel_rfl) (Zez hz)))
noncomputable def ZUc:FuncId×Con:=(45,⟨[.leaf 3],[.int .i64],λp=>Zqa p⟩)
theorem Zed:KQ ZUc:=Zl (ZF (C:=cf0 [Zgs] [] [] []) .no Tryz.func45 [] (λv vals x z ha hz=>.trans (by kernel_rfl) (Zdx hz)) ⟨isign_k,tr⟩)
noncomputable def Z2t:FuncId×Con:=(149,⟨[.int .u64],[.int .i64],λp=>ZAj p⟩)
theorem len64_k:KQ Z2t:=Zl (ZF (C:=cf2 [] []) (.n (.two (.n (.j [] [] [.s 0 (.dat (.int .u64)),.s 2 (.dat (.int .i64))] .no)) (.two (.n (.j [] [] [.s 0 (.dat (.int .u64)),.s 2 (.dat (.int .i64))] .no)) (.f (.n (.j [] [] [.s 0 (.dat (.int .u64)),.s 2 (.dat (.int .i64))] .no)))))) Tryz.func149 [] (λv vals x z ha hz=>.trans (by kernel_rfl) (ZYy hz)))
noncomputable def ZQm:FuncId×Con:=(124,⟨[.int .u64],[.int .i64],λp=>Z2d p⟩)
theorem Zis:KR ZQm:=ZF (C:=cf2 [] [Z2t]) .no Tryz.func124 [] (λv vals x z ha hz=>.trans (by kernel_rfl) (ZpA hz)) ⟨len64_k,tr⟩
theorem lz64_k:KQ ZQm:=Zl Zis
noncomputable def ZCm:FuncId×Con:=(129,⟨[.int .u64,.int .u64,.int .u64],[.int .u64,.int .u64],λp=>ZSd p.1 p.2.1 p.2.2⟩)
theorem Z9p:KR ZCm:=ZF (C:=cf2 [] [ZQm]) (.n (.n (.n (.n (.n (.n (.n (.n (.n (.n (.n (.n (.n (.n (.two (.j [2,8,9,10,11,13,14] [] [.s 15 (.dat (.int .u64))] (.f (.l [2,8,9,10,11,13,14] [] [.s 15 (.dat (.int .u64)),.s 16 (.dat (.int .u64))] 0 [2,8,9,10,11,13,14] [] [.s 15 (.dat (.int .u64))] (.f (.f (.f (.j [2,8,9,10,11,13,14,15,16] [] [.s 78 (.dat .bool)] .no))))))) (.n (.n (.n (.f (.j [2,8,14,15,17] [] [.s 18 (.dat (.int .u64))] (.f (.l [2,8,9,10,14,15,17] [] [.s 16 (.dat (.int .u64)),.s 18 (.dat (.int .u64))] 2 [2,8,14,15,17] [] [.s 18 (.dat (.int .u64))] (.f (.f (.f (.j [2,8,9,10,14,15,16,17,18] [] [.s 113 (.dat .bool)] .no)))))))))))))))))))))))))) Tryz.func129 [] (λv vals x z ha hz=>.trans (by kernel_rfl) (Z5w hz)) ⟨lz64_k,tr⟩
theorem div64_k:KQ ZCm:=Zl Z9p
noncomputable def ZfA:FuncId×Con:=(98,⟨[.leaf 0,.int .u64],[.leaf 0,.int .u64],λp=>ZBe p.1 p.2⟩)
theorem ZvC:KR ZfA:=ZF (C:=cf2 [(34,0)] [Ztf,ZCm]) (.n (.n (.n (.f (.n (.j [] [] [.s 6 (.own 143 (.int .u64)),.s 7 (.dat (.int .u64))] (.f (.l [0,1] [] [.s 6 (.own 143 (.int .u64)),.s 7 (.dat (.int .u64)),.s 8 (.dat (.int .i64))] 0 [] [] [.s 6 (.own 143 (.int .u64)),.s 7 (.dat (.int .u64))] .no)))))))) Tryz.func98 [] (λv vals x z ha hz=>by obtain⟨c0,w0,e0,p0,c1,e1,p1⟩:=ha;exact .trans (by kernel_rfl) (ZLA p1.2 hz)) ⟨Zgi,div64_k,tr⟩
theorem ZRq {h:World} {b:Zb} (hv:VIn b h) {c:List Value} {a:Nat} (i:Rep.rel Zx b c a) {d:List Value} {n:Int} (j:Rep.rel (Zd .u64) b d n) {z:Nat×Int} (hm:ZBe a n=some z) :
  Ret Tryz.prog 98 #[Zx.val c,(Zd .u64).val d] h b (λy v'=>∃ f g,y=Value.tuple #[Zx.val f,(Zd .u64).val g]∧Zx.rel v' f z.1∧(Zd .u64).rel v' g z.2) :=
 (ZvC h b [Zx.val c,(Zd .u64).val d] (a,n) z hv ⟨c,_,rfl,i,d,rfl,j⟩ hm).2.mono λy v' _ ⟨_,e,f,_,q,k,g,q',l⟩=>by subst q';subst q;exact⟨f,g,e,k,l⟩
noncomputable def cmp_q:FuncId×Con:=(78,⟨[.leaf 0,.leaf 0],[.int .i64],λp=>Z0f p.1 p.2⟩)
theorem cmp_r:KR cmp_q:=Z1l (C:=cf2 [] []) (.n (.n (.f (.n (.cut ⟨⟨[],[],[]⟩,[(.norm,⟨[],[],[]⟩),(.ret,⟨[],[],[.s 1000 (.dat (.int .i64))]⟩)]⟩ (.f (.cut ⟨⟨[0,1],[],[.s 5 (.dat (.int .i64))]⟩,[(.ret,⟨[],[],[.s 1000 (.dat (.int .i64))]⟩),(.exit 0,⟨[],[],[]⟩)]⟩ .no))))))) Tryz.func78 [] [.slice (.int .u64),.slice (.int .u64)] [.int .i64] (λx=>((Zc 18446744073709551616 x.1),(Zc 18446744073709551616 x.2))) (λz=>z) (λv vals x z ha hz=>by obtain⟨c0,w0,e0,p0,c1,e1,p1⟩:=ha;exact .trans (by kernel_rfl) ((cmp_eq (Zps p0) (Zps p1)).trans hz))
theorem cmp_k:KQ cmp_q:=Zl cmp_r
theorem cmp_c {f:World} {c:Zb} (hv:VIn c f) {d:List Value} {a:Nat} (h:Rep.rel Zx c d a) {e:List Value} {b:Nat} (i:Rep.rel Zx c e b) {z:Int} (hm:Z0f a b=some z) :
  Ret Tryz.prog 78 #[Zx.val d,Zx.val e] f c (λy v'=>∃ g,y=(Zd .i64).val g∧(Zd .i64).rel v' g z) :=
 (cmp_r f c [Zx.val d,Zx.val e] (a,b) z hv ⟨d,_,rfl,h,e,rfl,i⟩ hm).2
theorem Zjm {d:World} {b:Zb} (hv:VIn b d) {c:List Value} {a:(List Int)} (f:Rep.rel (ZA (Zd .u64)) b c a) {z:Nat} (hm:ZZa a=some z) :
  Ret Tryz.prog 91 #[(ZA (Zd .u64)).val c] d b (λy v'=>∃ e,y=Zx.val e∧Zx.rel v' e z) :=
 (cut_r d b [(ZA (Zd .u64)).val c] (a) z hv ⟨c,rfl,f⟩ hm).2
theorem div64_c {h:World} {a:Zb} (hv:VIn a h) {b:List Value} {hi:Int} (i:Rep.rel (Zd .u64) a b hi) {c:List Value} {lo:Int} (j:Rep.rel (Zd .u64) a c lo) {d:List Value} {y:Int} (k:Rep.rel (Zd .u64) a d y) {z:Int×Int} (hm:ZSd hi lo y=some z) :
  Ret Tryz.prog 129 #[(Zd .u64).val b,(Zd .u64).val c,(Zd .u64).val d] h a (λy v'=>∃ f g,y=Value.tuple #[(Zd .u64).val f,(Zd .u64).val g]∧(Zd .u64).rel v' f z.1∧(Zd .u64).rel v' g z.2) :=
 (Z9p h a [(Zd .u64).val b,(Zd .u64).val c,(Zd .u64).val d] (hi,lo,y) z hv ⟨b,_,rfl,i,c,_,rfl,j,d,rfl,k⟩ hm).2.mono λy v' _ ⟨_,e,f,_,q,l,g,q',m⟩=>by subst q';subst q;exact⟨f,g,e,l,m⟩
noncomputable def Zvo:FuncId×Con:=(89,⟨[.int .u64,.int .u64],[.int .u64,.int .u64],λp=>ZRc p.1 p.2⟩)
theorem Zyv:KR Zvo:=ZF (C:=cf2 [] []) .no Tryz.func89 [] (λv vals x z ha hz=>.trans (by kernel_rfl) (ZAx hz))
theorem mul64_k:KQ Zvo:=Zl Zyv
theorem ZWn {g:World} {a:Zb} (hv:VIn a g) {b:List Value} {x:Int} (h:Rep.rel (Zd .u64) a b x) {c:List Value} {y:Int} (i:Rep.rel (Zd .u64) a c y) {z:Int×Int} (hm:ZRc x y=some z) :
  Ret Tryz.prog 89 #[(Zd .u64).val b,(Zd .u64).val c] g a (λy v'=>∃ d f,y=Value.tuple #[(Zd .u64).val d,(Zd .u64).val f]∧(Zd .u64).rel v' d z.1∧(Zd .u64).rel v' f z.2) :=
 (Zyv g a [(Zd .u64).val b,(Zd .u64).val c] (x,y) z hv ⟨b,_,rfl,h,c,rfl,i⟩ hm).2.mono λy v' _ ⟨_,e,d,_,q,j,f,q',k⟩=>by subst q';subst q;exact⟨d,f,e,j,k⟩
end Go.Eng
namespace Go.Eng
open Go.RowKit
theorem Zw {α:Type _} {a b:α} (h:some a=some b):a=b:=Option.some.inj h
theorem Zca (b:Bool):b=true∨b=false:=(Bool.eq_false_or_eq_true b)
theorem leT {a b c:Zb} (h:a.le b) (k:b.le c):a.le c:=Zb.le_trans h k
theorem leR (v:Zb):v.le v:=Zb.le_refl v
theorem bO {α β:Type _} {x:Option α} {f:α→Option β} {z:β} {G:Prop} (h:bnd x f=some z) (k:∀ y,x=some y→f y=some z→G):G:=by obtain⟨y,e,h⟩:=Z8 h;exact k y e h
theorem ZD {P:Program} {Q:Exit→Act→World→Prop} {a:Act} {w:World} {id:Nat} {l:List Oper} (h:wpList P l.toArray Q l a w):(Code.region id l.toArray false).wp P Q a w:=wp_region_lit h
theorem Zp {P:Program} {Q:Exit→Act→World→Prop} {a:Act} {w:World} {x y:Code} (h:∀ K:Act→World→Prop,(∀ a w,y.wp P Q a w→K a w)→x.wp P (Exit.then K Q) a w):(Code.seq x y).wp P Q a w:=wp_seq_k h
theorem ZRa {α:Type} {A:Rep α} {v v':Zb} {cs:List Value} {x:α} (hv:v.le v') (h:A.rel v cs x):A.rel v' cs x:=A.mono hv h
theorem Rflat {α:Type} (A:Rep α) {v:Zb} {cs:List Value} {x:α} (h:A.rel v cs x):cs.all plain=true:=A.flat h
theorem Atm {v v':Zb} {b off:Nat} {cs:List Value} (h:v.le v') (k:At v b off cs):At v' b off cs:=At.mono h k
end Go.Eng
namespace Go.Eng
open Go.Proofs Go.RowKit
theorem Zyr:ZVi Tryz.prog 207 20 1:=⟨5,λ_=>by kernel_rfl,λ_=>by kernel_rfl⟩
theorem Zxv:ZYj Tryz.prog 143 3 .u64 .i64:=λ_ _=>by kernel_rfl
theorem ZQA:ZYj Tryz.prog 143 5 .u64 .u8:=λ_ _=>by kernel_rfl
theorem ZCy:ZYj Tryz.prog 3 143 .i64 .u64:=λ_ _=>by kernel_rfl
theorem Zpt:Elem Tryz.prog 170 9 1 16 (Value.string (Zy [])):=⟨Tryz.underlying170,by kernel_rfl,rfl,by decide⟩
theorem ZFj:Elem Tryz.prog 34 143 1 8 (Value.int IntKind.u64 0):=⟨Tryz.underlying34,by kernel_rfl,rfl,by decide⟩
theorem k_en100:ZI Tryz.prog 100:=λ_ _=>by kernel_rfl
theorem k_en101:ZI Tryz.prog 101:=λ_ _=>by kernel_rfl
theorem k_en102:ZI Tryz.prog 102:=λ_ _=>by kernel_rfl
theorem k_en124:ZI Tryz.prog 124:=λ_ _=>by kernel_rfl
theorem ZVk:ZI Tryz.prog 125:=λ_ _=>by kernel_rfl
theorem k_en126:ZI Tryz.prog 126:=λ_ _=>by kernel_rfl
theorem k_en127:ZI Tryz.prog 127:=λ_ _=>by kernel_rfl
theorem k_en128:ZI Tryz.prog 128:=λ_ _=>by kernel_rfl
theorem k_en129:ZI Tryz.prog 129:=λ_ _=>by kernel_rfl
theorem k_en150:ZI Tryz.prog 150:=λ_ _=>by kernel_rfl
theorem Znn:ZI Tryz.prog 151:=λ_ _=>by kernel_rfl
theorem ZBo:ZI Tryz.prog 152:=λ_ _=>by kernel_rfl
theorem k_en153:ZI Tryz.prog 153:=λ_ _=>by kernel_rfl
theorem k_en154:ZI Tryz.prog 154:=λ_ _=>by kernel_rfl
theorem Zvs:ZI Tryz.prog 170:=λ_ _=>by kernel_rfl
theorem k_en172:ZI Tryz.prog 172:=λ_ _=>by kernel_rfl
theorem k_en174:ZI Tryz.prog 174:=λ_ _=>by kernel_rfl
theorem Z7p:ZI Tryz.prog 180:=λ_ _=>by kernel_rfl
theorem k_en181:ZI Tryz.prog 181:=λ_ _=>by kernel_rfl
theorem ZHt:ZI Tryz.prog 182:=λ_ _=>by kernel_rfl
theorem k_en50:ZI Tryz.prog 50:=λ_ _=>by kernel_rfl
theorem k_en57:ZI Tryz.prog 57:=λ_ _=>by kernel_rfl
theorem ZTr:ZI Tryz.prog 78:=λ_ _=>by kernel_rfl
theorem k_en87:ZI Tryz.prog 87:=λ_ _=>by kernel_rfl
theorem ZOq:ZI Tryz.prog 88:=λ_ _=>by kernel_rfl
theorem Zdo:ZI Tryz.prog 89:=λ_ _=>by kernel_rfl
theorem Zhm:ZI Tryz.prog 91:=λ_ _=>by kernel_rfl
theorem Z7q:ZI Tryz.prog 98:=λ_ _=>by kernel_rfl
theorem k_en99:ZI Tryz.prog 99:=λ_ _=>by kernel_rfl
theorem Zfy:Zcd Tryz.prog 148 Zmm:=⟨_,Tryz.func148,by kernel_rfl,by kernel_rfl,by kernel_rfl,by kernel_rfl⟩
theorem ZXj:Zcd Tryz.prog 178 Extern.MathFloatBits.float64frombits:=⟨_,Tryz.func178,by kernel_rfl,by kernel_rfl,by kernel_rfl,by kernel_rfl⟩
theorem ZEi:Zcd Tryz.prog 179 Extern.MathFloatBits.float64bits:=⟨_,Tryz.func179,by kernel_rfl,by kernel_rfl,by kernel_rfl,by kernel_rfl⟩
theorem Z1t:Zcd Tryz.prog 90 add64Entry:=⟨_,Tryz.func90,by kernel_rfl,by kernel_rfl,by kernel_rfl,by kernel_rfl⟩
theorem Z3s:Z5l Tryz.prog 36 0 0:=λ_ _ _=>by kernel_rfl
theorem Zoz:Z5l Tryz.prog 36 1 1:=λ_ _ _=>by kernel_rfl
theorem ZHi:Tryz.prog.follows .mixedOrders=true:=by kernel_rfl
theorem ZSn:Z2b Tryz.prog 170 9 1:=⟨λ_=>by kernel_rfl,λ_=>by kernel_rfl⟩
theorem Zta:Z2b Tryz.prog 34 143 1:=⟨λ_=>by kernel_rfl,λ_=>by kernel_rfl⟩
theorem ZSb:Sized Tryz.prog 143 1 false:=⟨λ_=>by kernel_rfl,λ_=>by kernel_rfl⟩
theorem k_sz34:Sized Tryz.prog 34 1 false:=⟨λ_=>by kernel_rfl,λ_=>by kernel_rfl⟩
theorem ZIl:Sized Tryz.prog 36 2 true:=⟨λ_=>by kernel_rfl,λ_=>by kernel_rfl⟩
theorem ZCf:Sized Tryz.prog 38 3 true:=⟨λ_=>by kernel_rfl,λ_=>by kernel_rfl⟩
theorem k_sz4:Sized Tryz.prog 4 1 false:=⟨λ_=>by kernel_rfl,λ_=>by kernel_rfl⟩
theorem k_sz5:Sized Tryz.prog 5 1 false:=⟨λ_=>by kernel_rfl,λ_=>by kernel_rfl⟩
theorem k_sz9:Sized Tryz.prog 9 1 false:=⟨λ_=>by kernel_rfl,λ_=>by kernel_rfl⟩
theorem k_zv178:∀ w,(zeroValue 178).run Tryz.prog w = .ok (Value.agg #[Value.pointer none,Value.slice none 0 0]) w:=λ_=>by kernel_rfl
theorem k_zv207:∀ w,(zeroValue 207).run Tryz.prog w = .ok (Value.agg #[Value.int IntKind.u8 0,Value.int IntKind.u8 0,Value.int IntKind.u8 0,Value.int IntKind.u8 0,Value.int IntKind.u8 0,Value.int IntKind.u8 0,Value.int IntKind.u8 0,Value.int IntKind.u8 0,Value.int IntKind.u8 0,Value.int IntKind.u8 0,Value.int IntKind.u8 0,Value.int IntKind.u8 0,Value.int IntKind.u8 0,Value.int IntKind.u8 0,Value.int IntKind.u8 0,Value.int IntKind.u8 0,Value.int IntKind.u8 0,Value.int IntKind.u8 0,Value.int IntKind.u8 0,Value.int IntKind.u8 0]) w:=λ_=>by kernel_rfl
theorem k_zv36:∀ w,(zeroValue 36).run Tryz.prog w = .ok (Value.agg #[Value.bool false,Value.slice none 0 0]) w:=λ_=>by kernel_rfl
theorem Zat:∀ w,(zeroValue 38).run Tryz.prog w = .ok (Value.agg #[Value.bool false,Value.slice none 0 0,Value.slice none 0 0]) w:=λ_=>by kernel_rfl
theorem take_w {R:World} {o:Zb} (hv:VIn o R) {a off0 g C:Nat} {E:TypeId} {pre0 cs0 post0:List Value} {u:(List Int)} (bg:R.heap[a]? = some (.cells (pre0++cs0++post0).toArray E (0,0))) (aH:off0=pre0.length) (bh:o a=none) (au:g=u.length) (bi:g≤C∧C≤maxLen) (r:Rep.rels (Zd .u64) o cs0 u) {c1:List Value} {v:Nat} (D:Rep.rel Zx o c1 v) {c2:List Value} {q:Int} (p2:Rep.rel (Zd .u64) o c2 q) {z:Bool×(List Int)} (H:Z7i u v q=some z):Zzd Tryz.prog 150 #[.slice (some ⟨a,off0,none⟩) g C,Zx.val c1,(Zd .u64).val c2] R o [a] (λy v' w'=>(∃ r0,y=Zzb.val r0∧Zzb.rel v' r0 z.1)∧v' a=none∧∃ cs,w'.heap[a]? = some (.cells (pre0++cs++post0).toArray E (0,0))∧g=z.2.length∧Rep.rels (Zd .u64) v' cs z.2):=by
 obtain⟨q1,V,W,rfl⟩:=ZNa D;obtain⟨rfl,r4⟩:=p2;refine ZZq (K:=79) (args:=[.slice (some ⟨a,off0,none⟩) (g) C,.slice q1 V W,.int .u64 q]) hv bg bh Tryz.func150 rfl rfl zl λf S=>?_;unfold Z7i at H;refine sr (mw S rfl λf S=>oe (Zp λ_ bj=>bO H λJ bk H=>bO H λcJ av H=>ZD (mv S rfl λf S=>ov S rfl (ZDc S (Zxb D) rfl rfl Zta) λf S=>ov S rfl (Zu S rfl rfl (ZZc bk)) λf S=>?_)));obtain⟨aI,aR⟩:∃ c:List Value,c=(List.replicate (J).toNat [.int .u64 0]).flatten:=⟨_,rfl⟩;obtain⟨aS,w,bm,S⟩:=Z4q ZFj S (l:=J) (c:=J) (Zke av).1 (Zke av).2.1 (Zke av).2.2.1 (Zke av).2.2.2 aR;have bn:Rep.rels (Zd .u64) o aI (List.replicate (J).toNat (0:Int)):=by rw[aR];exact Zbh (show Rep.rel (Zd .u64) _ [.int .u64 0] _ from (ZJ (by decide))) _
 refine Zsd wn rfl zl (bm rfl rfl) S λf S=>mw S rfl λf S=>Zz (Zi (bj _ _ (sr (mw S rfl λf S=>oe (Zp λ_ bo=>sr (mv S rfl λf S=>ov S rfl (ZDc S (Zxb D) rfl rfl Zta) λf S=>mv S rfl λf S=>oe ?_))))));obtain⟨bp,bq,br⟩:=Z8 H;refine ZJb (λf w=>∃ L b aJ s G h X,(L,b)=bp∧Zb.le o X∧St 79 ⟨R,[a]⟩ o [(0,.slice (some ⟨a,off0,none⟩) (g) C),(1,.slice q1 V W),(7,.slice (mkA aJ) s G),(8,.int .u64 b)] [Loc.box a E (pre0++cs0++post0),Loc.own aJ 143 1 s G h] X f w∧Rep.rels (Zd .u64) X h L∧s=L.length∧inR .u64 b) (λ_ bs=>?_) ?_
 ·have H:=bq;refine wp_block ?_;obtain⟨cK,bt,bu⟩:=Z8 H;have S:=S.reorder (ℓ':=[Loc.box a E (pre0++cs0++post0),Loc.own (some aS) 143 1 ((J).toNat) (J).toNat aI]) [1,0] rfl (by decide);refine Zef bt (λbv f w=>∃ Y ag m ax M Z I ay,(Y,ag,m)=bv∧Zb.le o ay∧St 79 ⟨R,[a]⟩ o [(0,.slice (some ⟨a,off0,none⟩) (g) C),(1,.slice q1 V W),(2,.int .u64 q),(7,.slice (mkA ax) M Z),(8,.int .u64 ag),(20,.slice q1 V W),(21,.int .i64 ((((Zc 18446744073709551616 v)).length:Int))),(22,.int .i64 m)] [Loc.box a E (pre0++cs0++post0),Loc.own ax 143 1 M Z I] ay f w∧Rep.rels (Zd .u64) ay I Y∧M=Y.length∧inR .u64 ag∧inR .i64 m) ⟨_,_,_,some aS,(J).toNat,(J).toNat,aI,_,rfl,(leR _),(S.fr' rfl),bn,(repN (x:=(0:Int))),(by decide),(by decide)⟩ ?_;rintro _ f w st ⟨Y,ag,m,ax,M,Z,I,ay,hq,az,S,ah,ai,bw,cL⟩ H cM bx bz;subst hq;have r:=Z0 az r;refine sr (ov S rfl (Zu S rfl rfl Zhd) λf S=>oe (Zp λ_ bA=>?_));rcases Zca (decide (m<(((Zc 18446744073709551616 v)).length:Int))) with aj | aj
  ·have H:=Zba H aj;refine Zna S rfl aj (wp_skip (Zi (bA _ _ (Zp λ_ bB=>wp_block (Zp λ_ bC=>bO H λaK aL H=>ZD (mv S rfl λf S=>?_))))));have D:=ZRa az D;obtain⟨_,aT,aU,cN,rfl,bD,bE⟩:=ZSc D (Zs aL).2.1;obtain⟨rfl,bG⟩:=bE;refine ov S rfl (ZKa S rfl rfl Zta (Zs aL).1 (ltI (Zxb D) (Zs aL).2.2.1)) λf S=>ov S rfl (ZCb S rfl ZSb (S.view bD)) λf S=>mw S rfl λf S=>mw S rfl λf S=>Zz (Zi (bC _ _ (Zp λ_ bH=>bO H λaV bI H=>ZD (mv S rfl λf S=>mv S rfl λf S=>opc S rfl (ZO S [.int .u64 aK,.int .u64 q] Zdo rfl rfl) (ZWn S.vin (show Rep.rel (Zd .u64) _ [.int .u64 aK] aK from (ZJ bG)) (show Rep.rel (Zd .u64) _ [.int .u64 q] q from (ZJ r4)) bI) ?_))));rintro _ aW f w aM ⟨cO,cP,rfl,bJ,bK⟩ S;have r:=Z0 aM r;have ah:=Z0 aM ah;obtain⟨rfl,cQ⟩:=bJ;obtain⟨rfl,cR⟩:=bK;refine mv S rfl λf S=>ov S rfl (Zja S rfl rfl) λf S=>ov S rfl (Zja S rfl rfl) λf S=>mw S rfl λf S=>mw S rfl λf S=>Zz (Zi (bH _ _ (sr (mw S rfl λf S=>oe (Zp λ_ bM=>bO H λN aX H=>bO H λcS aa H=>ZD ?_)))));refine mv S rfl λf S=>mv S rfl λf S=>mv S rfl λf S=>mv S rfl λf S=>ov S rfl (ZHc S [.int .u64 (aV.2),.int .u64 ag,.int .u64 0] (ZYo Z1t aX) rfl rfl) λf S=>mv S rfl λf S=>ov S rfl (Zja S rfl rfl) λf S=>ov S rfl (Zja S rfl rfl) λf S=>?_
   obtain⟨aY,rfl⟩:=ZAd S (j:=1) rfl (posN ai (Zs aa).2.2.2);have aZ:=Z4a ah (Zs aa).2.1;obtain⟨cU,bP⟩:∃ c,(List.take (Zd .u64).n (List.drop ((m).toNat*(Zd .u64).n) I))=c:=⟨_,rfl⟩;rw[bP]at aZ;obtain⟨rfl,cV⟩:=aZ;refine ov S rfl (ZKa S rfl rfl Zta (Zs aa).1 (ltI ai (Zs aa).2.2.1)) λf S=>?_;obtain⟨w,bQ,S⟩:=ZWd S ZSb (off:=0+(m).toNat*1) (z:=.int .u64 (N.1)) (cs:=[.int .u64 (N.1)]) (Zwd rfl) rfl (i:=1) rfl (ZPj S (j:=1) rfl (ltN ai (Zs aa).2.2.2)) (by first | rfl | simp[plain]);have bR:Rep.rels (Zd .u64) aW (List.take (0+(m).toNat*1) I++[Value.int IntKind.u64 (N.1)]++List.drop (0+(m).toNat*1+1) I) (Y.set (m).toNat N.1):=ZIh ah (Zs aa).2.2.2 (show Rep.rel (Zd .u64) aW [.int .u64 (N.1)] _ from (ZJ (Zfo aX))) rfl rfl;have bS:M=(Y.set (m).toNat N.1).length:=setN ai;refine ZUg wn rfl (bQ rfl rfl) (mw S rfl λf S=>Zz ?_);have S:=S.fr' (σ':=[(0,.slice (some ⟨a,off0,none⟩) (g) C),(1,.slice (some ⟨aT,aU,none⟩) V W),(2,.int .u64 q),(7,.slice (mkA (some aY)) (M) Z),(11,.int .u64 (aV.1)),(13,.int .u64 (N.2)),(20,.slice (some ⟨aT,aU,none⟩) V W),(21,.int .i64 ((((Zc 18446744073709551616 v)).length:Int))),(22,.int .i64 m)]) rfl
   refine Zi (bM _ _ (ZD (mv S rfl λf S=>mv S rfl λf S=>ov S rfl (Zu S rfl rfl ZTo) λf S=>mw S rfl λf S=>Zz (Z5c (Zi (bB _ _ (bO H λcW a0 H=>ZD (ov S rfl (Zu S rfl rfl (ZZc a0)) λf S=>mv S rfl λf S=>Zz ?_))))))));obtain rfl:=Zw H;refine bx _ rfl _ _ ⟨_,_,_,some aY,M,Z,(List.take (0+(m).toNat*1) I++[Value.int IntKind.u64 (N.1)]++List.drop (0+(m).toNat*1+1) I),_,rfl,(leT az aM),(S.fr' rfl),bR,bS,(ZHb _ _),(Zob a0).2⟩
  have H:=Zaa H aj;refine Z4 S rfl aj (wp_exit (Zqb ?_));obtain rfl:=Zw H;have hq:=bz _ rfl;subst hq;have H:=bu;refine Zqb (ZVd ?_);obtain rfl:=Zw H;refine Zi (bs _ _ ⟨_,_,ax,M,Z,I,_,rfl,(leT (leR _) az),(S.fr' rfl),ah,ai,bw⟩)
 rintro f w ⟨L,b,aJ,s,G,h,X,hq,a1,S,a2,aA,bT⟩;subst hq;have H:=br;have r:=Z0 a1 r;refine Zi (bo _ _ (Zp λ_ bU=>bO H λcX ab H=>ZD (mv S rfl λf S=>mv S rfl λf S=>?_)));have D:=ZRa a1 D;refine ov S rfl (ZDc S (Zxb D) rfl rfl Zta) λf S=>mv S rfl λf S=>?_;obtain⟨ac,rfl⟩:=ZAd S (j:=1) rfl (posN aA (Zs ab).2.2.2);have a3:=Z4a a2 (Zs ab).2.1;obtain⟨cY,bV⟩:∃ c,(List.take (Zd .u64).n (List.drop (((((Zc 18446744073709551616 v)).length:Int)).toNat*(Zd .u64).n) h))=c:=⟨_,rfl⟩;rw[bV]at a3;obtain⟨rfl,cZ⟩:=a3;refine ov S rfl (ZKa S rfl rfl Zta (Zs ab).1 (ltI aA (Zs ab).2.2.1)) λf S=>?_;obtain⟨w,bW,S⟩:=ZWd S ZSb (off:=0+((((Zc 18446744073709551616 v)).length:Int)).toNat*1) (z:=.int .u64 b) (cs:=[.int .u64 b]) (Zwd rfl) rfl (i:=1) rfl (ZPj S (j:=1) rfl (ltN aA (Zs ab).2.2.2)) (by first | rfl | simp[plain]);have p:Rep.rels (Zd .u64) X (List.take (0+((((Zc 18446744073709551616 v)).length:Int)).toNat*1) h++[Value.int IntKind.u64 (b)]++List.drop (0+((((Zc 18446744073709551616 v)).length:Int)).toNat*1+1) h) (L.set ((((Zc 18446744073709551616 v)).length:Int)).toNat b):=ZIh a2 (Zs ab).2.2.2 (show Rep.rel (Zd .u64) X [.int .u64 b] _ from (ZJ bT)) rfl rfl
 have aN:s=(L.set ((((Zc 18446744073709551616 v)).length:Int)).toNat b).length:=setN aA;refine ZUg wn rfl (bW rfl rfl) (Zz (Zi (bU _ _ (Zp λ_ bX=>Zp λ_ bY=>bO H λc0 bZ H=>bO H λc3 b1 H=>bO H λb2 b3 H=>ZD (mv S rfl λf S=>?_)))));have p0s120:=r;have h69s120:=p;have b4:=S.vst.le;obtain⟨c4,c5,a4,t,S,b5,b6,b7,T⟩:=S.lendSeg (i:=0) (A:=(Zd .u64)) (l:=u) (ℓ':=[Loc.own (some ac) 143 1 s G ((List.take (0+((((Zc 18446744073709551616 v)).length:Int)).toNat*1) h++[Value.int IntKind.u64 (b)]++List.drop (0+((((Zc 18446744073709551616 v)).length:Int)).toNat*1+1) h))]) rfl rfl aH r au bi;have p:=Z0 a4 p;refine opc S rfl (ZO S [.slice (some ⟨a,off0,none⟩) (g) C] Zhm rfl rfl) (Zjm S.vin (show Rep.rel (ZA (Zd .u64)) _ [.slice (some ⟨a,off0,none⟩) (g) C] u from T) bZ) ?_;rintro _ c6 f w aB ⟨c7,rfl,P⟩ S;have p:=Z0 aB p;have t:=aB _ _ t;obtain⟨b8,b9,ca,rfl⟩:=ZNa P;refine mv S rfl λf S=>?_;have T:=ZRa aB T;have h128s137:=T;have h69s137:=p;have h133s137:=P;have h124s137:=t;have cb:=S.vst.le;obtain⟨c8,c9,aC,ak,S,cc,ce,cg,ch⟩:=S.lendSlice (i:=0) (A:=(Zd .u64)) (l:=(L.set ((((Zc 18446744073709551616 v)).length:Int)).toNat b)) (ℓ':=[]) rfl rfl rfl p aN
 have t:=aC _ _ t;refine opc S rfl (ZO S [.slice (mkA (some ac)) (s) G] Zhm rfl rfl) (Zjm S.vin (show Rep.rel (ZA (Zd .u64)) _ [.slice (mkA (some ac)) (s) G] ((L.set ((((Zc 18446744073709551616 v)).length:Int)).toNat b)) from ch) b1) ?_;rintro _ da f w al ⟨db,rfl,a5⟩ S;have t:=al _ _ t;have ak:=al _ _ ak;obtain⟨ci,cj,ck,rfl⟩:=ZNa a5;have P:=ZRa (leT aC al) P;refine opc S rfl (ZO S [.slice b8 b9 ca,.slice ci cj ck] ZTr rfl rfl) (cmp_c S.vin P a5 b3) ?_;rintro _ dc f w am ⟨dd,rfl,cl⟩ S;have t:=am _ _ t;have ak:=am _ _ ak;obtain⟨rfl,de⟩:=cl;refine ov S rfl (Zu S rfl rfl Zhd) λf S=>Zz ?_;obtain⟨df,an,S⟩:=S.takeBack (e:=Loc.own (some ac) 143 1 s G ((List.take (0+((((Zc 18446744073709551616 v)).length:Int)).toNat*1) h++[Value.int IntKind.u64 (b)]++List.drop (0+((((Zc 18446744073709551616 v)).length:Int)).toNat*1+1) h))) (leT (leT aC al) am) rfl ak cc ce cb cg;have T:=ZRa (leT (leT aC al) am) T;have T:=ZRa an h128s137;have p:=Z0 an h69s137;have P:=ZRa am P;have P:=ZRa an h133s137;have t:=an _ _ h124s137;obtain⟨a6,a7,S⟩:=S.takeBack (e:=Loc.box a E (pre0++cs0++post0)) (leT (leT a4 aB) an) rfl t b5 b6 b4 b7;have r:=Z0 a7 p0s120
 have p:=Z0 a7 h69s120;refine Zi (bY _ _ ?_);rcases Zca (decide (b2<(0:Int))) with ao | ao
 ·have H:=Zba H ao;refine Zna S rfl ao (sr (mw S rfl λf S=>oe (wp_ret (Z8b ?_))));obtain rfl:=Zw H;refine Z9o S (Z0a rfl (ZP S rfl)) ⟨⟨[.bool false],rfl,ZWj⟩,(S.boxAt (j:=0) rfl).2,_,(S.boxAt (j:=0) rfl).1,au,r⟩
 have H:=Zaa H ao;refine Z4 S rfl ao (wp_skip (Zi (bX _ _ (sr (mw S rfl λf S=>oe (Zp λ_ cm=>sr (mv S rfl λf S=>ov S rfl (ZDc S au rfl rfl Zta) λf S=>mv S rfl λf S=>oe ?_)))))));obtain⟨cn,co,cp⟩:=Z8 H;refine ZJb (λf w=>∃ aD aO aE,aD=cn∧Zb.le a6 aE∧St 79 ⟨R,[a]⟩ o [] [Loc.box a E (pre0++aO++post0)] aE f w∧Rep.rels (Zd .u64) aE aO aD∧g=aD.length) (λ_ cq=>?_) ?_
 ·have H:=co;refine wp_block ?_;obtain⟨dg,cr,ct⟩:=Z8 H;refine Zef cr (λcu f w=>∃ ad ap d B ae,(ad,ap,d)=cu∧Zb.le a6 ae∧St 79 ⟨R,[a]⟩ o [(0,.slice (some ⟨a,off0,none⟩) (g) C),(7,.slice (mkA (some ac)) (s) G),(14,.int .u64 ap),(58,.int .i64 ((u.length:Int))),(59,.int .i64 d)] [Loc.box a E (pre0++B++post0),Loc.own (some ac) 143 1 s G ((List.take (0+((((Zc 18446744073709551616 v)).length:Int)).toNat*1) h++[Value.int IntKind.u64 (b)]++List.drop (0+((((Zc 18446744073709551616 v)).length:Int)).toNat*1+1) h))] ae f w∧Rep.rels (Zd .u64) ae B ad∧g=ad.length∧inR .u64 ap∧inR .i64 d) ⟨_,_,_,cs0,_,rfl,(leR _),(S.fr' rfl),r,au,(by decide),(by decide)⟩ ?_;rintro _ f w st ⟨ad,ap,d,B,ae,hq,aP,S,af,Q,dh,di⟩ H dj cv cw;subst hq;have p:=Z0 aP p;refine sr (ov S rfl (Zu S rfl rfl Zhd) λf S=>oe (Zp λ_ cx=>?_));rcases Zca (decide (d<(u.length:Int))) with aq | aq
  ·have H:=Zba H aq;refine Zna S rfl aq (wp_skip (Zi (cx _ _ (Zp λ_ cy=>wp_block (sr (mv S rfl λf S=>mw S rfl λf S=>oe (bO H λa8 aF H=>bO H λa9 aG H=>bO H λU aQ H=>bO H λdk ar H=>Z6f (fl:=#[true,true,true,true,true,true,true,true,true,true,true,false,true,true,true,true,false,false]) ZHi (by kernel_rfl) S ?_)))))));intro ops O F w S;refine rfa O F 0 rfl rfl S (ZK S rfl) λf S=>rfa O F 1 rfl rfl S (ZK S rfl) λf S=>rfa O F 2 rfl rfl S (ZK S rfl) λf S=>rfa O F 3 rfl rfl S (ZK S rfl) λf S=>?_;have ba:=Z4a af (Zs aF).2.1;obtain⟨dl,bb⟩:∃ c,(List.take (Zd .u64).n (List.drop ((d).toNat*(Zd .u64).n) B))=c:=⟨_,rfl⟩;rw[bb]at ba;obtain⟨rfl,cz⟩:=ba;refine rfa O F 4 rfl rfl S (ZKa S rfl rfl Zta (Zs aF).1 (ltI Q (Zs aF).2.2.1)) λf S=>rfa O F 5 rfl rfl S (ZCb S rfl ZSb (Zqi S (j:=0) rfl aH (Z8e af Q) bb (ltN Q (Zs aF).2.2.2) 0 [.int .u64 a8] rfl zl)) λf S=>rfa O F 6 rfl rfl S (ZK S rfl) λf S=>rfa O F 7 rfl rfl S (ZK S rfl) λf S=>?_;have bc:=Z4a p (Zs aG).2.1;obtain⟨dm,bd⟩:∃ c,(List.take (Zd .u64).n (List.drop ((d).toNat*(Zd .u64).n) (List.take (0+((((Zc 18446744073709551616 v)).length:Int)).toNat*1) h++[Value.int IntKind.u64 (b)]++List.drop (0+((((Zc 18446744073709551616 v)).length:Int)).toNat*1+1) h)))=c:=⟨_,rfl⟩
   rw[bd]at bc;obtain⟨rfl,cA⟩:=bc;refine rfa O F 8 rfl rfl S (ZKa S rfl rfl Zta (Zs aG).1 (ltI aN (Zs aG).2.2.1)) λf S=>rfa O F 9 rfl rfl S (ZCb S rfl ZSb (Zjf S (j:=1) rfl bd (ltN aN (Zs aG).2.2.2) 0 [.int .u64 a9] rfl zl)) λf S=>rfa O F 10 rfl rfl S (ZK S rfl) λf S=>go1 O F 11 (nva [5,9,10,4,8,2,3,6,7] [0,1] O rfl rfl S (ZHc S [.int .u64 a8,.int .u64 a9,.int .u64 ap] (Zkt Zfy cz cA aQ) rfl rfl) λf S=>⟨(py S rfl rfl (ZK S rfl) (py S rfl rfl (ZK S rfl) Z8a)),rfa O F 12 rfl rfl S (ZK S rfl) λf S=>rfa O F 13 rfl rfl S (Zja S rfl rfl) λf S=>rfa O F 14 rfl rfl S (Zja S rfl rfl) λf S=>?_⟩);have be:=Z4a af (Zs ar).2.1;obtain⟨dn,cC⟩:∃ c,(List.take (Zd .u64).n (List.drop ((d).toNat*(Zd .u64).n) B))=c:=⟨_,rfl⟩;rw[cC]at be;obtain⟨rfl,dp⟩:=be;refine rfa O F 15 rfl rfl S (ZKa S rfl rfl Zta (Zs ar).1 (ltI Q (Zs ar).2.2.1)) λf S=>go1 O F 16 ?_;obtain⟨w,cD,S⟩:=ZBw S (k:=(d).toNat) ZSb (z:=.int .u64 (U.1)) (c:=[.int .u64 (U.1)]) (Zwd rfl) rfl (i:=0) rfl aH (Z8e af Q) (ltN Q (Zs ar).2.2.2) rfl (by first | rfl | simp[plain]);have cE:Rep.rels (Zd .u64) ae (List.take (0+(d).toNat*1) B++[Value.int IntKind.u64 (U.1)]++List.drop (0+(d).toNat*1+1) B) (ad.set (d).toNat U.1):=ZIh af (Zs ar).2.2.2 (show Rep.rel (Zd .u64) ae [.int .u64 (U.1)] _ from (ZJ (Z2s aQ))) rfl rfl
   have cF:g=(ad.set (d).toNat U.1).length:=setN Q;refine nxs [0,1,2,3,4,5,6,7,8,9,10,11,12,13,15] [14] O rfl rfl (cD rfl rfl) (⟨(py S rfl rfl (Zja S rfl rfl) Z8a),go1 O F 17 (nva [0,1,2,3,4,5,6,7,8,9,10,11,12,13,14,15,16] [] O rfl rfl S (Z2c S rfl) λf S=>⟨Z8a,fin1 O F (Z5c (Zi (cy _ _ (bO H λdq bf H=>ZD (ov S rfl (Zu S rfl rfl (ZZc bf)) λf S=>mv S rfl λf S=>Zz ?_)))))⟩)⟩);obtain rfl:=Zw H;refine cv _ rfl _ _ ⟨_,_,_,(List.take (0+(d).toNat*1) B++[Value.int IntKind.u64 (U.1)]++List.drop (0+(d).toNat*1+1) B),_,rfl,aP,(S.fr' rfl),cE,cF,(ZUt aQ),(Zob bf).2⟩
  have H:=Zaa H aq;refine Z4 S rfl aq (wp_exit (Zqb ?_));obtain rfl:=Zw H;have hq:=cw _ rfl;subst hq;have H:=ct;refine Zqb (ZVd ?_);obtain rfl:=Zw H;have S:=S.reorder (ℓ':=[Loc.box a E (pre0++B++post0)]) [0] rfl (by decide);refine Zi (cq _ _ ⟨_,B,_,rfl,(leT (leR _) aP),(S.fr' rfl),af,Q⟩)
 rintro f w ⟨aD,aO,aE,hq,dr,S,cH,cI⟩;subst hq;have H:=cp;refine Zi (cm _ _ (sr (mw S rfl λf S=>oe (wp_ret ?_))));obtain rfl:=Zw H;refine Z9o S (Z0a rfl (ZP S rfl)) ⟨⟨[.bool true],rfl,ZWj⟩,(S.boxAt (j:=0) rfl).2,_,(S.boxAt (j:=0) rfl).1,cI,cH⟩
theorem take_c {d:World} {a:Zb} (hv:VIn a d) {b off0 c e:Nat} {f:TypeId} {pre0 cs0 post0:List Value} {u:(List Int)} (l:d.heap[b]? = some (.cells (pre0++cs0++post0).toArray f (0,0))) (m:off0=pre0.length) (n:a b=none) (o:c=u.length) (p:c≤e∧e≤maxLen) (g:Rep.rels (Zd .u64) a cs0 u) {h:List Value} {v:Nat} (r:Rep.rel Zx a h v) {i:List Value} {q:Int} (j:Rep.rel (Zd .u64) a i q) {z:Bool×(List Int)} (hm:Znh u v q=some z) :
  Zzd Tryz.prog 150 #[Value.slice (some ⟨b,off0,none⟩) c e,Zx.val h,(Zd .u64).val i] d a [b] (λy v' w'=>(∃ k,y=Zzb.val k∧Zzb.rel v' k z.1)∧v' b=none∧∃ cs,w'.heap[b]? = some (.cells (pre0++cs++post0).toArray f (0,0))∧c=z.2.length∧Rep.rels (Zd .u64) v' cs z.2) :=
 take_w hv l m n o p g r j (Znw (Zxn g) j.2 hm)
theorem digit_w {x:World} {m:Zb} (hv:VIn m x) {a off0 e h:Nat} {A:TypeId} {pre0 cs0 post0:List Value} {u:(List Int)} (a1:x.heap[a]? = some (.cells (pre0++cs0++post0).toArray A (0,0))) (G:off0=pre0.length) (a2:m a=none) (k:e=u.length) (a3:e≤h∧h≤maxLen) (d:Rep.rels (Zd .u64) m cs0 u) {c1:List Value} {v:Nat} (g:Rep.rel Zx m c1 v) {z:Int×(List Int)} (H:ZTj u v=some z):Zzd Tryz.prog 126 #[.slice (some ⟨a,off0,none⟩) e h,Zx.val c1] x m [a] (λy v' w'=>(∃ r0,y=(Zd .u64).val r0∧(Zd .u64).rel v' r0 z.1)∧v' a=none∧∃ cs,w'.heap[a]? = some (.cells (pre0++cs++post0).toArray A (0,0))∧e=z.2.length∧Rep.rels (Zd .u64) v' cs z.2):=by
 obtain⟨q1,o,p,rfl⟩:=ZNa g;refine ZZq (K:=90) (args:=[.slice (some ⟨a,off0,none⟩) (e) h,.slice q1 o p]) hv a1 a2 Tryz.func126 rfl rfl zl λf S=>?_;unfold ZTj at H;refine sr (mw S rfl λf S=>oe (sr (mv S rfl λf S=>ov S rfl (ZDc S (Zxb g) rfl rfl Zta) λf S=>mw S rfl λf S=>oe (sr (mw S rfl λf S=>oe (Zp λ_ a4=>Zp λ_ a5=>bO H λaF V H=>?_))))));refine bO H λcm a6 H=>bO H λa7 aj H=>Z6f (fl:=#[true,true,true,true,true,true,true,true,true,true]) ZHi (by kernel_rfl) S ?_;intro ops O F w S;refine rfa O F 0 rfl rfl S (ZK S rfl) λf S=>rfa O F 1 rfl rfl S (ZK S rfl) λf S=>?_;have aG:=Z4a d (Zs V).2.1;obtain⟨cn,aH⟩:∃ c,(List.take (Zd .u64).n (List.drop (((((Zc 18446744073709551616 v)).length:Int)).toNat*(Zd .u64).n) cs0))=c:=⟨_,rfl⟩;rw[aH]at aG;obtain⟨rfl,co⟩:=aG;refine rfa O F 2 rfl rfl S (ZKa S rfl rfl Zta (Zs V).1 (ltI k (Zs V).2.2.1)) λf S=>rfa O F 3 rfl rfl S (ZCb S rfl ZSb (Zqi S (j:=0) rfl G (Z8e d k) aH (ltN k (Zs V).2.2.2) 0 [.int .u64 aF] rfl zl)) λf S=>rfa O F 4 rfl rfl S (ZK S rfl) λf S=>rfa O F 5 rfl rfl S (ZK S rfl) λf S=>rfa O F 6 rfl rfl S (Zu S rfl rfl (ZDb a6)) λf S=>?_;obtain⟨_,r,s,cp,rfl,a8,a9⟩:=ZSc g (Zs aj).2.1
 obtain⟨rfl,cq⟩:=a9;refine rfa O F 7 rfl rfl S (ZKa S rfl rfl Zta (Zs aj).1 (ltI (Zxb g) (Zs aj).2.2.1)) λf S=>rfa O F 8 rfl rfl S (ZCb S rfl ZSb (S.view a8)) λf S=>rfa O F 9 rfl rfl S (Zu S rfl rfl Zhd) λf S=>fin1 O F (Zi (a5 _ _ ?_));obtain⟨ba,bb,bc⟩:=Z8 H;refine ZJb (λf w=>∃ W I,W=ba∧Zb.le m I∧St 90 ⟨x,[a]⟩ m [(0,.slice (some ⟨a,off0,none⟩) (e) h),(1,.slice (some ⟨r,s,none⟩) o p),(6,.int .u64 W)] [Loc.box a A (pre0++cs0++post0)] I f w∧inR .u64 W) (λ_ aI=>?_) ?_
 ·have H:=bb;rcases Zca (decide (aF<a7)) with J | J
  ·have H:=Zba H J;refine Zna S rfl J (sr (mw S rfl λf S=>oe (Zp λ_ bd=>bO H λX Y H=>bO H λbe bf H=>bO H λZ aa H=>bO H λcr bg H=>bO H λak al H=>bO H λaJ bh H=>Z6f (fl:=#[true,true,true,true,true,true,true,true,true,true,true,true,true,true,false,true,true,true,false,false]) ZHi (by kernel_rfl) S ?_)));intro ops O F w S;refine rfa O F 0 rfl rfl S (ZK S rfl) λf S=>rfa O F 1 rfl rfl S (ZK S rfl) λf S=>?_;have aK:=Z4a d (Zs Y).2.1;obtain⟨ct,aL⟩:∃ c,(List.take (Zd .u64).n (List.drop (((((Zc 18446744073709551616 v)).length:Int)).toNat*(Zd .u64).n) cs0))=c:=⟨_,rfl⟩;rw[aL]at aK;obtain⟨rfl,bi⟩:=aK;refine rfa O F 2 rfl rfl S (ZKa S rfl rfl Zta (Zs Y).1 (ltI k (Zs Y).2.2.1)) λf S=>rfa O F 3 rfl rfl S (ZCb S rfl ZSb (Zqi S (j:=0) rfl G (Z8e d k) aL (ltN k (Zs Y).2.2.2) 0 [.int .u64 X] rfl zl)) λf S=>rfa O F 4 rfl rfl S (ZK S rfl) λf S=>rfa O F 5 rfl rfl S (ZK S rfl) λf S=>rfa O F 6 rfl rfl S (Zu S rfl rfl (ZDb bf)) λf S=>?_;have aM:=Z4a d (Zs aa).2.1;obtain⟨cu,aN⟩:∃ c,(List.take (Zd .u64).n (List.drop ((be).toNat*(Zd .u64).n) cs0))=c:=⟨_,rfl⟩;rw[aN]at aM;obtain⟨rfl,bj⟩:=aM;refine rfa O F 7 rfl rfl S (ZKa S rfl rfl Zta (Zs aa).1 (ltI k (Zs aa).2.2.1)) λf S=>rfa O F 8 rfl rfl S (ZCb S rfl ZSb (Zqi S (j:=0) rfl G (Z8e d k) aN (ltN k (Zs aa).2.2.2) 0 [.int .u64 Z] rfl zl)) λf S=>rfa O F 9 rfl rfl S (ZK S rfl) λf S=>rfa O F 10 rfl rfl S (ZK S rfl) λf S=>rfa O F 11 rfl rfl S (Zu S rfl rfl (ZDb bg)) λf S=>?_
   obtain⟨cv,am,bk⟩:=ZDm g (Zs al).2.1;obtain⟨rfl,bm⟩:=bk;refine rfa O F 12 rfl rfl S (ZKa S rfl rfl Zta (Zs al).1 (ltI (Zxb g) (Zs al).2.2.1)) λf S=>rfa O F 13 rfl rfl S (ZCb S rfl ZSb (S.view am)) λf S=>go1 O F 14 (nxc [3,8,13,2,7,12,0,1,4,6,9,11,5,10] [] O rfl S rfl (ZO S [.int .u64 X,.int .u64 Z,.int .u64 ak] k_en129 rfl rfl) (div64_c S.vin (show Rep.rel (Zd .u64) _ [.int .u64 X] X from (ZJ bi)) (show Rep.rel (Zd .u64) _ [.int .u64 Z] Z from (ZJ bj)) (show Rep.rel (Zd .u64) _ [.int .u64 ak] ak from (ZJ bm)) bh) ?_);rintro _ aO f w ab ⟨cw,cx,rfl,bn,bo⟩ S;have d:=Z0 ab d;have am:=Atm ab am;obtain⟨rfl,bp⟩:=bn;obtain⟨rfl,bq⟩:=bo;refine⟨Z8a,rfa O F 15 rfl rfl S (ZK S rfl) λf S=>rfa O F 16 rfl rfl S (Zja S rfl rfl) λf S=>rfa O F 17 rfl rfl S (Zja S rfl rfl) λf S=>go1 O F 18 (nva [0,1,2,3,4,5,6,7,8,9,10,11,12,13,14,15,16] [17] O rfl rfl S (Z2c S rfl) λf S=>⟨(py S rfl rfl (Zja S rfl rfl) Z8a),go1 O F 19 (nva [0,1,2,3,4,5,6,7,8,9,10,11,12,13,14,15,16,17,18] [] O rfl rfl S (Z2c S rfl) λf S=>⟨Z8a,fin1 O F ?_⟩)⟩)⟩;have S:=S.fr' (σ':=[(0,.slice (some ⟨a,off0,none⟩) (e) h),(1,.slice (some ⟨r,s,none⟩) o p),(5,.int .i64 ((((Zc 18446744073709551616 v)).length:Int))),(6,.int .u64 (aJ.1)),(7,.int .u64 (aJ.2))]) rfl
   refine Zi (bd _ _ ?_);obtain⟨br,bs,bt⟩:=Z8 H;refine ZJb (λf w=>∃ ac an,ac=br∧Zb.le aO an∧St 90 ⟨x,[a]⟩ m [(0,.slice (some ⟨a,off0,none⟩) (e) h),(1,.slice (some ⟨r,s,none⟩) o p),(6,.int .u64 ac)] [Loc.box a A (pre0++cs0++post0)] an f w∧inR .u64 ac) (λ_ aP=>?_) ?_
   ·have H:=bs;refine wp_block ?_;obtain⟨cy,bu,aQ⟩:=Z8 H;refine Zef bu (λbv f w=>∃ q l ao,(q,l)=bv∧Zb.le aO ao∧St 90 ⟨x,[a]⟩ m [(0,.slice (some ⟨a,off0,none⟩) (e) h),(1,.slice (some ⟨r,s,none⟩) o p),(5,.int .i64 ((((Zc 18446744073709551616 v)).length:Int))),(6,.int .u64 q),(7,.int .u64 l)] [Loc.box a A (pre0++cs0++post0)] ao f w∧inR .u64 q∧inR .u64 l) ⟨_,_,_,rfl,(leR _),(S.fr' rfl),bp,bq⟩ ?_;rintro _ f w st ⟨q,l,ao,hq,L,S,aR,cz⟩ H cA bw aS;subst hq;have d:=Z0 L d;refine wp_block (Zp λ_ bx=>bO H λcC bz H=>bO H λap aq H=>bO H λB bA H=>ZD (mv S rfl λf S=>mv S rfl λf S=>mv S rfl λf S=>ov S rfl (Zu S rfl rfl (ZDb bz)) λf S=>?_));have g:=ZRa (leT ab L) g;obtain⟨cD,ar,bB⟩:=ZDm g (Zs aq).2.1;obtain⟨rfl,bC⟩:=bB;refine ov S rfl (ZKa S rfl rfl Zta (Zs aq).1 (ltI (Zxb g) (Zs aq).2.2.1)) λf S=>ov S rfl (ZCb S rfl ZSb (S.view ar)) λf S=>opc S rfl (ZO S [.int .u64 q,.int .u64 ap] Zdo rfl rfl) (ZWn S.vin (show Rep.rel (Zd .u64) _ [.int .u64 q] q from (ZJ aR)) (show Rep.rel (Zd .u64) _ [.int .u64 ap] ap from (ZJ bC)) bA) ?_;rintro _ bD f w E ⟨cE,cF,rfl,bE,bG⟩ S
    have d:=Z0 E d;have ar:=Atm E ar;obtain⟨rfl,cH⟩:=bE;obtain⟨rfl,cI⟩:=bG;refine mv S rfl λf S=>ov S rfl (Zja S rfl rfl) λf S=>ov S rfl (Zja S rfl rfl) λf S=>mw S rfl λf S=>mw S rfl λf S=>Zz (Zi (bx _ _ (Zp λ_ bH=>Zp λ_ bI=>?_)));obtain⟨bJ,bK,bM⟩:=Z8 H;refine ZJb (λf w=>∃ ad au,ad=bJ∧Zb.le bD au∧St 90 ⟨x,[a]⟩ m [(0,.slice (some ⟨a,off0,none⟩) (e) h),(1,.slice (some ⟨r,s,none⟩) o p),(5,.int .i64 ((((Zc 18446744073709551616 v)).length:Int))),(6,.int .u64 q),(7,.int .u64 l),(67,.bool ad)] [Loc.box a A (pre0++cs0++post0)] au f w) (λ_ av=>?_) ?_
    ·have H:=bK;refine ZD (mv S rfl λf S=>mv S rfl λf S=>ov S rfl (Zu S rfl rfl Zhd) λf S=>mv S rfl λf S=>?_);rcases Zca (decide (B.1<l)) with M | M
     ·have H:=Zba H M;have S:=S.bool (t:=54) rfl M;refine opn S rfl rfl rfl rfl λf S=>opn S rfl rfl rfl rfl λf S=>opn S rfl rfl rfl rfl λf S=>opn S rfl rfl rfl rfl λf S=>Zkf S (ZKe S rfl rfl rfl zl) rfl zl λf S=>Zkf S (ZKe S rfl rfl rfl zl) rfl zl λf S=>Zkf S (ZKe S rfl rfl rfl zl) rfl zl λf S=>Zkf S (ZKe S rfl rfl rfl zl) rfl zl λf S=>Zkf S (ZKe S rfl rfl rfl zl) rfl zl λf S=>Zkf S (ZKe S rfl rfl rfl zl) rfl zl λf S=>Zkf S (ZKe S rfl rfl rfl zl) rfl zl λf S=>opn S rfl rfl rfl rfl λf S=>ov S rfl (Zyc S (b:=true) rfl rfl) λf S=>Zz ?_;have S:=S.fr' (σ':=[(0,.slice (some ⟨a,off0,none⟩) (e) h),(1,.slice (some ⟨r,s,none⟩) o p),(5,.int .i64 ((((Zc 18446744073709551616 v)).length:Int))),(6,.int .u64 q),(7,.int .u64 l),(55,undef),(56,undef),(57,undef),(58,undef),(59,undef),(60,undef),(61,undef),(62,undef),(63,undef),(64,undef),(65,undef),(66,undef),(67,.bool true)]) rfl;obtain rfl:=Zw H;refine Zi (av _ _ ⟨_,_,rfl,(leR _),(S.fr' rfl)⟩)
     have H:=Zaa H M;have S:=S.bool (t:=54) rfl M;refine opy S rfl rfl rfl rfl (ZK S rfl) λf S=>opy S rfl rfl rfl rfl (ZK S rfl) λf S=>opy S rfl rfl rfl rfl (Zu S rfl rfl ZWg) λf S=>opy S rfl rfl rfl rfl (ZK S rfl) λf S=>?_;rcases Zca (B.1==l) with C | C
     ·have H:=Zba H C;have S:=S.bool (t:=57) rfl C;have S:=S.bool (t:=58) rfl C;refine bO H λax bP H=>bO H λN ae H=>opy S rfl rfl rfl rfl (ZK S rfl) λf S=>opy S rfl rfl rfl rfl (ZK S rfl) λf S=>opy S rfl rfl rfl rfl (ZK S rfl) λf S=>opy S rfl rfl rfl rfl (Zu S rfl rfl (ZDb bP)) λf S=>?_;have aT:=Z4a d (Zs ae).2.1;obtain⟨cJ,aU⟩:∃ c,(List.take (Zd .u64).n (List.drop ((ax).toNat*(Zd .u64).n) cs0))=c:=⟨_,rfl⟩;rw[aU]at aT;obtain⟨rfl,cK⟩:=aT;refine opy S rfl rfl rfl rfl (ZKa S rfl rfl Zta (Zs ae).1 (ltI k (Zs ae).2.2.1)) λf S=>opy S rfl rfl rfl rfl (ZCb S rfl ZSb (Zqi S (j:=0) rfl G (Z8e d k) aU (ltN k (Zs ae).2.2.2) 0 [.int .u64 N] rfl zl)) λf S=>opy S rfl rfl rfl rfl (Zu S rfl rfl Z0q) λf S=>opy S rfl rfl rfl rfl (Zyc S (b:=true) rfl rfl) λf S=>ov S rfl (Zyc S (b:=false) rfl rfl) λf S=>Zz ?_;have S:=S.fr' (σ':=[(0,.slice (some ⟨a,off0,none⟩) (e) h),(1,.slice (some ⟨r,s,none⟩) o p),(5,.int .i64 ((((Zc 18446744073709551616 v)).length:Int))),(6,.int .u64 q),(7,.int .u64 l),(55,.int .u64 (B.1)),(56,.int .u64 l),(57,.bool true),(58,.bool true),(59,.int .u64 (B.2)),(60,.slice (some ⟨a,off0,none⟩) (e) h),(61,.int .i64 ((((Zc 18446744073709551616 v)).length:Int))),(62,.int .i64 ax),(63,.pointer (some ⟨a,off0+(ax).toNat*1,none⟩)),(64,.int .u64 N),(65,.bool (decide (B.2≤N))),(66,.bool (decide (B.2≤N))),(67,.bool (decide (B.2≤N)))]) rfl
      obtain rfl:=Zw H;refine Zi (av _ _ ⟨_,_,rfl,(leR _),(S.fr' rfl)⟩)
     have H:=Zaa H C;have S:=S.bool (t:=57) rfl C;have S:=S.bool (t:=58) rfl C;refine opn S rfl rfl rfl rfl λf S=>opn S rfl rfl rfl rfl λf S=>opn S rfl rfl rfl rfl λf S=>opn S rfl rfl rfl rfl λf S=>opn S rfl rfl rfl rfl λf S=>opn S rfl rfl rfl rfl λf S=>opn S rfl rfl rfl rfl λf S=>opy S rfl rfl rfl rfl (Zyc S (b:=false) rfl rfl) λf S=>ov S rfl (Zyc S (b:=false) rfl rfl) λf S=>Zz ?_;have S:=S.fr' (σ':=[(0,.slice (some ⟨a,off0,none⟩) (e) h),(1,.slice (some ⟨r,s,none⟩) o p),(5,.int .i64 ((((Zc 18446744073709551616 v)).length:Int))),(6,.int .u64 q),(7,.int .u64 l),(55,.int .u64 (B.1)),(56,.int .u64 l),(57,.bool false),(58,.bool false),(59,undef),(60,undef),(61,undef),(62,undef),(63,undef),(64,undef),(65,undef),(66,.bool false),(67,.bool false)]) rfl;obtain rfl:=Zw H;refine Zi (av _ _ ⟨_,_,rfl,(leR _),(S.fr' rfl)⟩)
    rintro f w ⟨ad,au,hq,P,S⟩;subst hq;have H:=bM;have d:=Z0 P d;refine Zi (bI _ _ ?_);rcases Zca (ad) with Q | Q
    ·have H:=Zba H Q;refine Zna S rfl Q (wp_exit (Zqb (Zuv rfl ?_)));obtain rfl:=Zw H;have hq:=aS _ rfl;subst hq;have H:=aQ;refine Zqb (ZVd ?_);obtain rfl:=Zw H;refine Zi (aP _ _ ⟨_,_,rfl,(leT (leT (leT (leR _) L) E) P),(S.fr' rfl),aR⟩)
    have H:=Zaa H Q;refine Z4 S rfl Q (wp_skip (Zi (bH _ _ (sr (mv S rfl λf S=>ov S rfl (Zu S rfl rfl Zwn) λf S=>mw S rfl λf S=>oe (sr (mw S rfl λf S=>oe (Zp λ_ bQ=>bO H λcL bR H=>bO H λbS ay H=>?_))))))));refine bO H λbT aV H=>ZD (mv S rfl λf S=>mv S rfl λf S=>mv S rfl λf S=>ov S rfl (Zu S rfl rfl (ZDb bR)) λf S=>?_);have g:=ZRa (leT E P) g;obtain⟨cM,bU,bV⟩:=ZDm g (Zs ay).2.1;obtain⟨rfl,cN⟩:=bV;refine ov S rfl (ZKa S rfl rfl Zta (Zs ay).1 (ltI (Zxb g) (Zs ay).2.2.1)) λf S=>ov S rfl (ZCb S rfl ZSb (S.view bU)) λf S=>ov S rfl (ZHc S [.int .u64 l,.int .u64 bS,.int .u64 0] (ZYo Z1t aV) rfl rfl) λf S=>mv S rfl λf S=>ov S rfl (Zja S rfl rfl) λf S=>ov S rfl (Zja S rfl rfl) λf S=>mw S rfl λf S=>mw S rfl λf S=>Zz (Zi (bQ _ _ (sr (mv S rfl λf S=>ov S rfl (Zu S rfl rfl Zmf) λf S=>oe ?_))));rcases Zca (decide ((0:Int)<bT.2)) with R | R
    ·have H:=Zba H R;refine Zna S rfl R (wp_exit (Zuv rfl ?_));obtain rfl:=Zw H;have hq:=aS _ rfl;subst hq;have H:=aQ;refine Zqb (ZVd ?_);obtain rfl:=Zw H;refine Zi (aP _ _ ⟨_,_,rfl,(leT (leT (leT (leR _) L) E) P),(S.fr' rfl),(ZHb _ _)⟩)
    have H:=Zaa H R;refine Z4 S rfl R (wp_skip (Z5c ?_));obtain rfl:=Zw H;refine bw _ rfl _ _ ⟨_,_,_,rfl,(leT (leT L E) P),(S.fr' rfl),(ZHb _ _),(Zfo aV)⟩
   rintro f w ⟨ac,an,hq,aW,S,bW⟩;subst hq;have H:=bt;have d:=Z0 aW d;obtain rfl:=Zw H;refine Zi (aI _ _ ⟨_,_,rfl,(leT (leT (leR _) ab) aW),(S.fr' rfl),bW⟩)
  have H:=Zaa H J;refine Z4 S rfl J (wp_skip ?_);obtain rfl:=Zw H;refine Zi (aI _ _ ⟨_,_,rfl,(leR _),(S.fr' rfl),(by decide)⟩)
 rintro f w ⟨W,I,hq,aX,S,bX⟩;subst hq;have H:=bc;have d:=Z0 aX d;refine Zi (a4 _ _ (Zp λ_ bY=>?_));obtain⟨bZ,b1,b2⟩:=Z8 H;refine ZJb (λf w=>∃ af T az ag,(af,T)=bZ∧Zb.le I ag∧St 90 ⟨x,[a]⟩ m [(6,.int .u64 T)] [Loc.box a A (pre0++az++post0)] ag f w∧Rep.rels (Zd .u64) ag az af∧e=af.length∧inR .u64 T) (λ_ b3=>?_) ?_
 ·have H:=b1;refine wp_block ?_;obtain⟨cO,b4,b5⟩:=Z8 H;refine Zef b4 (λb6 f w=>∃ ah D aA ai,(ah,D)=b6∧Zb.le I ai∧St 90 ⟨x,[a]⟩ m [(0,.slice (some ⟨a,off0,none⟩) (e) h),(1,.slice (some ⟨r,s,none⟩) o p),(6,.int .u64 D)] [Loc.box a A (pre0++aA++post0)] ai f w∧Rep.rels (Zd .u64) ai aA ah∧e=ah.length∧inR .u64 D) ⟨_,_,cs0,_,rfl,(leR _),(S.fr' rfl),d,k,bX⟩ ?_;rintro _ f w st ⟨ah,D,aA,ai,hq,aB,S,aC,b7,aY⟩ H cP b8 b9;subst hq;refine Zp λ_ ca=>Zp λ_ cb=>bO H λcc ce H=>ZD (mv S rfl λf S=>mv S rfl λf S=>mv S rfl λf S=>?_);have g:=ZRa (leT aX aB) g;refine ZEt S wn rfl zl (ZO S [.slice (some ⟨a,off0,none⟩) (e) h,.slice (some ⟨r,s,none⟩) o p,.int .u64 D] k_en150 rfl rfl) (i:=0) rfl rfl (take_c S.vin (S.boxAt (j:=0) rfl).1 G (S.boxAt (j:=0) rfl).2 b7 a3 aC g (show Rep.rel (Zd .u64) _ [.int .u64 D] D from (ZJ aY)) ce) ?_;rintro _ cQ f w aD ⟨⟨cR,rfl,cg⟩,ch,aE,ci,aZ,a0⟩ hSf;have aC:=Z0 aD aC;have S:=hSf (Loc.box a A (pre0++aE++post0)) rfl ci ch;obtain rfl:=cg;refine ov S rfl (Zrt S rfl) λf S=>Zz (Zi (cb _ _ ?_));rcases Zca (!(cc.1)) with U | U
  ·have H:=Zba H U;refine Zna S rfl U (wp_skip (Zi (ca _ _ (wp_block (ZD (mv S rfl λf S=>ov S rfl (Zu S rfl rfl Zwn) λf S=>mw S rfl λf S=>Zz (Z5c ?_)))))));obtain rfl:=Zw H;refine b8 _ rfl _ _ ⟨_,_,aE,_,rfl,(leT aB aD),(S.fr' rfl),a0,aZ,(ZHb _ _)⟩
  have H:=Zaa H U;refine Z4 S rfl U (wp_exit (Zqb ?_));obtain rfl:=Zw H;have hq:=b9 _ rfl;subst hq;have H:=b5;refine Zqb (ZVd ?_);obtain rfl:=Zw H;refine Zi (b3 _ _ ⟨_,_,aE,_,rfl,(leT (leT (leR _) aB) aD),(S.fr' rfl),a0,aZ,aY⟩)
 rintro f w ⟨af,T,az,ag,hq,cS,S,cj,ck,cl⟩;subst hq;have H:=b2;refine Zi (bY _ _ (sr (mv S rfl λf S=>mw S rfl λf S=>oe (wp_ret ?_))));obtain rfl:=Zw H;refine Z9o S (Z0a rfl (ZP S rfl)) ⟨⟨[.int .u64 T],rfl,(ZJ cl)⟩,(S.boxAt (j:=0) rfl).2,_,(S.boxAt (j:=0) rfl).1,ck,cj⟩
theorem digit_c {d:World} {b:Zb} (hv:VIn b d) {a off0 c e:Nat} {f:TypeId} {pre0 cs0 post0:List Value} {u:(List Int)} (j:d.heap[a]? = some (.cells (pre0++cs0++post0).toArray f (0,0))) (k:off0=pre0.length) (l:b a=none) (m:c=u.length) (n:c≤e∧e≤maxLen) (g:Rep.rels (Zd .u64) b cs0 u) {h:List Value} {v:Nat} (o:Rep.rel Zx b h v) {z:Int×(List Int)} (hm:Zmi u v=some z) :
  Zzd Tryz.prog 126 #[Value.slice (some ⟨a,off0,none⟩) c e,Zx.val h] d b [a] (λy v' w'=>(∃ i,y=(Zd .u64).val i∧(Zd .u64).rel v' i z.1)∧v' a=none∧∃ cs,w'.heap[a]? = some (.cells (pre0++cs++post0).toArray f (0,0))∧c=z.2.length∧Rep.rels (Zd .u64) v' cs z.2) :=
 digit_w hv j k l m n g o (Zkz (Zxn g) hm)
noncomputable def left_q:FuncId×Con:=(125,⟨[.leaf 0,.int .i64],[.leaf 0],λp=>Zgd p.1 p.2⟩)
theorem left_r:KR left_q:=ZF (C:=cf2 [(34,0)] [Ztf]) (.n (.two (.f (.j [0,1] [] [.s 14 (.dat .bool)] .no)) (.n (.f (.n (.j [] [] [.s 5 (.own 143 (.int .u64))] (.f (.l [1,23,24] [] [.s 5 (.own 143 (.int .u64)),.s 25 (.dat (.int .i64))] 0 [] [] [.s 5 (.own 143 (.int .u64))] .no)))))))) Tryz.func125 [] (λv vals x z ha hz=>.trans (by kernel_rfl) (ZOB hz)) ⟨Zgi,tr⟩
theorem Zbk {e:World} {b:Zb} (hv:VIn b e) {c:List Value} {a:Nat} (g:Rep.rel Zx b c a) {d:List Value} {n:Int} (h:Rep.rel (Zd .i64) b d n) {z:Nat} (hm:Zgd a n=some z) :
  Ret Tryz.prog 125 #[Zx.val c,(Zd .i64).val d] e b (λy v'=>∃ f,y=Zx.val f∧Zx.rel v' f z) :=
 (left_r e b [Zx.val c,(Zd .i64).val d] (a,n) z hv ⟨c,_,rfl,g,d,rfl,h⟩ hm).2
theorem lz64_c {c:World} {a:Zb} (hv:VIn a c) {b:List Value} {x:Int} (e:Rep.rel (Zd .u64) a b x) {z:Int} (hm:Z2d x=some z) :
  Ret Tryz.prog 124 #[(Zd .u64).val b] c a (λy v'=>∃ d,y=(Zd .i64).val d∧(Zd .i64).rel v' d z) :=
 (Zis c a [(Zd .u64).val b] (x) z hv ⟨b,rfl,e⟩ hm).2
noncomputable def right_q:FuncId×Con:=(127,⟨[.leaf 0,.int .i64],[.leaf 0],λp=>ZBg p.1 p.2⟩)
theorem right_r:KR right_q:=ZF (C:=cf2 [(34,0)] [Ztf]) (.n (.n (.n (.f (.n (.j [] [] [.s 5 (.own 143 (.int .u64))] (.f (.l [0,1,19] [] [.s 5 (.own 143 (.int .u64)),.s 20 (.dat (.int .i64))] 0 [] [] [.s 5 (.own 143 (.int .u64))] (.f (.n (.n (.f (.f (.n (.n (.n (.j [0,1,19,20] [] [.s 5 (.own 143 (.int .u64))] .no))))))))))))))))) Tryz.func127 [] (λv vals x z ha hz=>by obtain⟨c0,w0,e0,p0,c1,e1,p1⟩:=ha;exact .trans (by kernel_rfl) (ZWA p1.2 hz)) ⟨Zgi,tr⟩
theorem right_c {e:World} {b:Zb} (hv:VIn b e) {c:List Value} {a:Nat} (g:Rep.rel Zx b c a) {d:List Value} {n:Int} (h:Rep.rel (Zd .i64) b d n) {z:Nat} (hm:ZBg a n=some z) :
  Ret Tryz.prog 127 #[Zx.val c,(Zd .i64).val d] e b (λy v'=>∃ f,y=Zx.val f∧Zx.rel v' f z) :=
 (right_r e b [Zx.val c,(Zd .i64).val d] (a,n) z hv ⟨c,_,rfl,g,d,rfl,h⟩ hm).2
theorem Zru {c:World} {a:Zb} (hv:VIn a c) {b:List Value} {n:Int} (e:Rep.rel (Zd .u64) a b n) {z:Nat} (hm:Ztc n=some z) :
  Ret Tryz.prog 88 #[(Zd .u64).val b] c a (λy v'=>∃ d,y=Zx.val d∧Zx.rel v' d z) :=
 (Z9s c a [(Zd .u64).val b] (n) z hv ⟨b,rfl,e⟩ hm).2
theorem Zxx {w0:World} {F:Zb} (hv:VIn F w0) {c0:List Value} {a:Nat} (m:Rep.rel Zx F c0 a) {c1:List Value} {b:Nat} (g:Rep.rel Zx F c1 b) {z:Nat×Nat} (H:ZLj a b=some z):Ret Tryz.prog 86 #[Zx.val c0,Zx.val c1] w0 F (λy v'=>∃ r0 r1,y = .tuple #[Zx.val r0,Zx.val r1]∧Zx.rel v' r0 z.1∧Zx.rel v' r1 z.2):=by
 obtain⟨R,T,U,rfl⟩:=ZNa m;obtain⟨q4,n5,k6,rfl⟩:=ZNa g;refine Z1b (K:=84) (args:=[.slice R T U,.slice q4 n5 k6]) hv Tryz.func86 rfl rfl zl λf S=>?_;unfold ZLj at H;refine sr (mw S rfl λf S=>mw S rfl λf S=>oe (Zp λ_ bc=>wp_block (Zp λ_ bd=>bO H λbe bf H=>ZD (mv S rfl λf S=>mv S rfl λf S=>opc S rfl (ZO S [.slice R T U,.slice q4 n5 k6] ZTr rfl rfl) (cmp_c S.vin m g bf) ?_))));rintro _ c2 f w aj ⟨c3,rfl,bg⟩ S;obtain⟨rfl,c4⟩:=bg;refine ov S rfl (Zu S rfl rfl Zhd) λf S=>mw S rfl λf S=>Zz (Zi (bd _ _ ?_));rcases Zca (decide (be<(0:Int))) with V | V
 ·have H:=Zba H V;refine Zna S rfl V (sr (mv S rfl λf S=>mw S rfl λf S=>mw S rfl λf S=>oe (wp_ret (Zoh (Z8b ?_)))));obtain rfl:=Zw H;have m:=ZRa aj m;refine Zva S (ZFc rfl (ZP S rfl) (ZP S rfl)) ⟨[.slice none 0 0],[.slice R T U],rfl,(ZGh _),m⟩
 have H:=Zaa H V;refine Z4 S rfl V (sr (mv S rfl λf S=>?_));have g:=ZRa aj g;refine ov S rfl (ZDc S (Zxb g) rfl rfl Zta) λf S=>ov S rfl (Zu S rfl rfl ZWg) λf S=>mw S rfl λf S=>oe ?_;rcases Zca (((((Zc 18446744073709551616 b)).length:Int))==(1:Int)) with W | W
 ·have H:=Zba H W;refine Zna S rfl W (Zp λ_ bh=>bO H λau av H=>bO H λax bi H=>ZD (mv S rfl λf S=>mv S rfl λf S=>?_));obtain⟨_,c5,c6,c7,rfl,ay,bj⟩:=ZSc g (Zs av).2.1;obtain⟨rfl,bk⟩:=bj;refine ov S rfl (ZKa S rfl rfl Zta (Zs av).1 (ltI (Zxb g) (Zs av).2.2.1)) λf S=>ov S rfl (ZCb S rfl ZSb (S.view ay)) λf S=>?_;have m:=ZRa aj m;refine opc S rfl (ZO S [.slice R T U,.int .u64 au] Z7q rfl rfl) (ZRq S.vin m (show Rep.rel (Zd .u64) _ [.int .u64 au] au from (ZJ bk)) bi) ?_;rintro _ c8 f w bm ⟨c9,da,rfl,ak,bn⟩ S;have ay:=Atm bm ay;obtain⟨aT,aU,aV,rfl⟩:=ZNa ak;obtain⟨rfl,bo⟩:=bn;refine mv S rfl λf S=>ov S rfl (Zja S rfl rfl) λf S=>ov S rfl (Zja S rfl rfl) λf S=>mw S rfl λf S=>mw S rfl λf S=>Zz (Zi (bh _ _ (Zp λ_ bp=>bO H λdb bq H=>ZD (mv S rfl λf S=>mv S rfl λf S=>opc S rfl (ZO S [.int .u64 (ax.2)] ZOq rfl rfl) (Zru S.vin (show Rep.rel (Zd .u64) _ [.int .u64 (ax.2)] ax.2 from (ZJ bo)) bq) ?_))));rintro _ dc f w br ⟨dd,rfl,aW⟩ S;obtain⟨aX,aY,aZ,rfl⟩:=ZNa aW;refine mw S rfl λf S=>mw S rfl λf S=>Zz ?_;have S:=S.fr' (σ':=[(4,.slice aT aU aV),(5,.slice aX aY aZ)]) rfl;refine Zi (bp _ _ (wp_ret (Zoh (Z8b ?_))))
  obtain rfl:=Zw H;have ak:=ZRa br ak;refine Zva S (ZFc rfl (ZP S rfl) (ZP S rfl)) ⟨[.slice aT aU aV],[.slice aX aY aZ],rfl,ak,aW⟩
 have H:=Zaa H W;refine Z4 S rfl W (wp_skip (Z5c (Zi (bc _ _ (Zp λ_ bs=>bO H λde bt H=>bO H λaz aA H=>bO H λk bu H=>ZD (mv S rfl λf S=>mv S rfl λf S=>ov S rfl (ZDc S (Zxb g) rfl rfl Zta) λf S=>ov S rfl (Zu S rfl rfl (ZDb bt)) λf S=>?_))))));obtain⟨_,bv,bw,df,rfl,aB,bx⟩:=ZSc g (Zs aA).2.1;obtain⟨rfl,bz⟩:=bx;refine ov S rfl (ZKa S rfl rfl Zta (Zs aA).1 (ltI (Zxb g) (Zs aA).2.2.1)) λf S=>ov S rfl (ZCb S rfl ZSb (S.view aB)) λf S=>opc S rfl (ZO S [.int .u64 az] k_en124 rfl rfl) (lz64_c S.vin (show Rep.rel (Zd .u64) _ [.int .u64 az] az from (ZJ bz)) bu) ?_;rintro _ dg f w aC ⟨dh,rfl,bA⟩ S;have aB:=Atm aC aB;obtain⟨rfl,aD⟩:=bA;refine mw S rfl λf S=>Zz (Zi (bs _ _ (Zp λ_ bB=>bO H λbC bD H=>ZD (mv S rfl λf S=>mv S rfl λf S=>?_))));have g:=ZRa aC g;refine opc S rfl (ZO S [.slice (some ⟨bv,bw,none⟩) n5 k6,.int .i64 k] ZVk rfl rfl) (Zbk S.vin g (show Rep.rel (Zd .i64) _ [.int .i64 k] k from (ZJ aD)) bD) ?_;rintro _ bE f w bG ⟨di,rfl,v⟩ S;obtain⟨aE,aF,aG,rfl⟩:=ZNa v;refine mw S rfl λf S=>Zz (Zi (bB _ _ (Zp λ_ bH=>bO H λX bI H=>bO H λdj bJ H=>bO H λdk bK H=>ZD ?_)))
 obtain⟨dl,w,bM,S⟩:=Zgh (P:=Tryz.prog) (t:=34) (e:=143) S (n:=0) (cs:=[]) (vals:=[]) (sz:=1) rfl (by decide) (λ_=>by kernel_rfl);have aH:Rep.rels (Zd .u64) bE [] []:=Zqf;refine Zsd wn rfl zl (bM rfl) S λf S=>mv S rfl λf S=>mv S rfl λf S=>?_;have m:=ZRa (leT (leT aj aC) bG) m;refine opc S rfl (ZO S [.slice R T U,.int .i64 k] ZVk rfl rfl) (Zbk S.vin m (show Rep.rel (Zd .i64) _ [.int .i64 k] k from (ZJ aD)) bI) ?_;rintro _ al f w a0 ⟨dm,rfl,aI⟩ S;have aH:=Z0 a0 aH;obtain⟨dn,dp,dq,rfl⟩:=ZNa aI;have aJ:=S;obtain⟨dr,ds,a1,w,bP,S,bQ⟩:=Zqg (ty:=34) (A:=(Zd .u64)) ZFj S (i:=0) (n':=(([]:(List Int))++((Zc 18446744073709551616 X))).length) rfl aI (appN rfl (Zxb aI)) (ZSe bJ) (by decide);have bR:=ZIc aH bQ;refine Zsd wn rfl zl (ZEe aJ rfl rfl bP) S λf S=>?_;obtain⟨dt,w,bS,S⟩:=Zgh S (n:=1) (cs:=[.int .u64 0]) (vals:=[(0,.int .u64 0)]) (sz:=1) rfl (by decide) (ZXv ZFj (x:=.int .u64 0) (cs:=[.int .u64 0]) rfl rfl (by decide));have aK:Rep.rels (Zd .u64) al [.int .u64 0] [(0:Int)]:=(ZHs (ZJ (by decide)) Zqf);refine Zsd wn rfl zl (bS rfl) S λf S=>?_;have aJ:=S;obtain⟨aL,aM,w,bT,S⟩:=Zgk (ty:=34) ZFj S (i:=1) (n':=((([]:(List Int))++((Zc 18446744073709551616 X)))++[(0:Int)]).length) rfl (Z8e aK rfl) (Zki S (j:=0) rfl) (Z5h aK) (appN rfl rfl) (ZSe bK) (by decide)
 have bU:=ZIc bR aK;refine Zsd wn rfl zl (ZEe aJ rfl rfl bT) S λf S=>mw S rfl λf S=>Zz ?_;have S:=S.fr' (σ':=[(8,.int .i64 k),(9,.slice aE aF aG),(10,.slice (mkA aL) (((([]:(List Int))++((Zc 18446744073709551616 X)))++[(0:Int)]).length) aM)]) rfl;refine Zi (bH _ _ (sr (mv S rfl λf S=>?_)));have v:=ZRa a0 v;refine ov S rfl (ZDc S (Zxb v) rfl rfl Zta) λf S=>mw S rfl λf S=>oe (Zp λ_ bV=>bO H λq bW H=>bO H λdu am H=>ZD (mv S rfl λf S=>ov S rfl (ZDc S rfl rfl rfl Zta) λf S=>mv S rfl λf S=>ov S rfl (Zu S rfl rfl (ZDb bW)) λf S=>?_));obtain⟨aN,a2⟩:∃ c:List Value,c=(List.replicate (q).toNat [.int .u64 0]).flatten:=⟨_,rfl⟩;obtain⟨a3,w,bX,S⟩:=Z4q ZFj S (l:=q) (c:=q) (Zke am).1 (Zke am).2.1 (Zke am).2.2.1 (Zke am).2.2.2 a2;have bY:Rep.rels (Zd .u64) al aN (List.replicate (q).toNat (0:Int)):=by rw[a2];exact Zbh (show Rep.rel (Zd .u64) _ [.int .u64 0] _ from (ZJ (by decide))) _
 refine Zsd wn rfl zl (bX rfl rfl) S λf S=>mw S rfl λf S=>Zz (Zi (bV _ _ (Zp λ_ bZ=>Zp λ_ b0=>bO H λdw a4 H=>ZD (mv S rfl λf S=>ov S rfl (ZDc S (repN (x:=(0:Int))) rfl rfl Zta) λf S=>ov S rfl (Zu S rfl rfl (ZDb a4)) λf S=>mw S rfl λf S=>Zz (Zi (b0 _ _ ?_))))));obtain⟨b1,b2,b3⟩:=Z8 H;refine ZJb (λf w=>∃ G I J B L an Y M Z aO aa,(G,I)=b1∧Zb.le al aa∧St 84 w0 F [(8,.int .i64 k),(10,.slice (mkA J) B L),(12,.slice (mkA Y) M Z)] [Loc.own J 143 1 B L an,Loc.own Y 143 1 M Z aO] aa f w∧Rep.rels (Zd .u64) aa an G∧B=G.length∧Rep.rels (Zd .u64) aa aO I∧M=I.length) (λ_ b4=>?_) ?_
 ·have H:=b2;refine wp_block ?_;obtain⟨dx,b5,b6⟩:=Z8 H;have S:=S.reorder (ℓ':=[Loc.own aL 143 1 (((([]:(List Int))++((Zc 18446744073709551616 X)))++[(0:Int)]).length) aM ((([]++a1)++[.int .u64 0])),Loc.own (some a3) 143 1 ((q).toNat) (q).toNat aN]) [2,0] rfl (by decide);refine Zef b5 (λb7 f w=>∃ ao N d ap C D s aq E ab o ac,(ao,N,d)=b7∧Zb.le al ac∧St 84 w0 F [(8,.int .i64 k),(9,.slice aE aF aG),(10,.slice (mkA ap) C D),(11,.int .i64 ((((Zc 18446744073709551616 bC)).length:Int))),(12,.slice (mkA aq) E ab),(13,.int .i64 d)] [Loc.own ap 143 1 C D s,Loc.own aq 143 1 E ab o] ac f w∧Rep.rels (Zd .u64) ac s ao∧C=ao.length∧Rep.rels (Zd .u64) ac o N∧E=N.length∧inR .i64 d) ⟨_,_,_,aL,((([]:(List Int))++((Zc 18446744073709551616 X)))++[(0:Int)]).length,aM,(([]++a1)++[.int .u64 0]),some a3,(q).toNat,(q).toNat,aN,_,rfl,(leR _),(S.fr' rfl),bU,rfl,bY,(repN (x:=(0:Int))),(Zob a4).2⟩ ?_;rintro _ f w st ⟨ao,N,d,ap,C,D,s,aq,E,ab,o,ac,hq,aP,S,ad,ae,af,ag,dy⟩ H dz b8 b9
  subst hq;refine Zp λ_ ca=>sr (mv S rfl λf S=>ov S rfl (Zu S rfl rfl Zmj) λf S=>oe ?_);rcases Zca (decide ((0:Int)≤d)) with ah | ah
  ·have H:=Zba H ah;refine Zna S rfl ah (wp_skip (Zi (ca _ _ (Zp λ_ cb=>wp_block (bO H λdA cc H=>bO H λO ce H=>bO H λdB h H=>bO H λu cg H=>bO H λdC Q H=>ZD (mv S rfl λf S=>mv S rfl λf S=>mv S rfl λf S=>?_))))));refine mv S rfl λf S=>mv S rfl λf S=>mv S rfl λf S=>ov S rfl (Zu S rfl rfl (ZZc cc)) λf S=>ov S rfl (Zu S rfl rfl (ZZc ce)) λf S=>?_;obtain⟨aQ,rfl⟩:=ZAd S (j:=0) rfl (by have:=ZWc h;have:=ae;omega);refine ov S rfl (ZVz S (j:=0) rfl Zta (ZWc h).1 (ZWc h).2.1 (by have:=(ZWc h).2.2.1;have:=ae;omega) rfl rfl rfl) λf S=>mv S rfl λf S=>?_;obtain⟨pre399,post400,ch,ci,cj,ck,cl,cm⟩:=ZIA S (i:=0) (lo:=(d).toNat) (hi:=(O).toNat) rfl (ZWc h).2.2.2.2.2.1 (by have:=(ZWc h).2.2.2.2.2.2;have:=ae;omega);have v:=ZRa aP v;refine ZEt S wn rfl zl (ZO S [.slice (some ⟨aQ,(d).toNat*1,none⟩) ((O-d).toNat) (D-(d).toNat),.slice aE aF aG] k_en126 rfl rfl) (i:=0) rfl rfl (digit_c S.vin ch cj ci (ZWc h).2.2.2.2.1 ⟨ZCC (ZWc h).1 (ZWc h).2.1 ck,cl⟩ (ZMz ad rfl (ZWc h).2.2.2.1) v cg) ?_;rintro _ a5 f w aR ⟨⟨dD,rfl,cn⟩,co,aS,cp,cq,a6⟩ hSf;have ad:=Z0 aR ad
   have af:=Z0 aR af;have a7:((O).toNat-(d).toNat)=u.2.length:=by have:=cq;have:=ZWc h;omega
   have S:=hSf (Loc.own (some aQ) 143 1 C D (List.take ((d).toNat*1) s++aS++List.drop ((O).toNat*1) s)) rfl (cm _ aS (Z8e a6 a7) cp) co;have cr:=ZLz (p:=(d).toNat) (r:=(O).toNat) (sz:=1) ad a6 rfl;have ct:=Ztw ae (ZWc h).2.2.2.2.2.1 (ZWc h).2.2.2.2.2.2 a7;obtain⟨rfl,cu⟩:=cn;obtain⟨cv,rfl⟩:=ZAd S (j:=1) rfl (posN ag (Zs Q).2.2.2);have a8:=Z4a af (Zs Q).2.1;obtain⟨dE,cw⟩:∃ c,(List.take (Zd .u64).n (List.drop ((d).toNat*(Zd .u64).n) o))=c:=⟨_,rfl⟩;rw[cw]at a8;obtain⟨rfl,dF⟩:=a8;refine ov S rfl (ZKa S rfl rfl Zta (Zs Q).1 (ltI ag (Zs Q).2.2.1)) λf S=>?_;obtain⟨w,cx,S⟩:=ZWd S ZSb (off:=0+(d).toNat*1) (z:=.int .u64 (u.1)) (cs:=[.int .u64 (u.1)]) (Zwd rfl) rfl (i:=1) rfl (ZPj S (j:=1) rfl (ltN ag (Zs Q).2.2.2)) (by first | rfl | simp[plain]);have cy:Rep.rels (Zd .u64) a5 (List.take (0+(d).toNat*1) o++[Value.int IntKind.u64 (u.1)]++List.drop (0+(d).toNat*1+1) o) (N.set (d).toNat u.1):=ZIh af (Zs Q).2.2.2 (show Rep.rel (Zd .u64) a5 [.int .u64 (u.1)] _ from (ZJ cu)) rfl rfl;have cz:E=(N.set (d).toNat u.1).length:=setN ag;refine ZUg wn rfl (cx rfl rfl) (Zz (Z5c (Zi (cb _ _ (bO H λdG a9 H=>ZD (mv S rfl λf S=>ov S rfl (Zu S rfl rfl (ZDb a9)) λf S=>mw S rfl λf S=>Zz ?_))))))
   obtain rfl:=Zw H;refine b8 _ rfl _ _ ⟨_,_,_,some aQ,C,D,(List.take ((d).toNat*1) s++aS++List.drop ((O).toNat*1) s),some cv,E,ab,(List.take (0+(d).toNat*1) o++[Value.int IntKind.u64 (u.1)]++List.drop (0+(d).toNat*1+1) o),_,rfl,(leT aP aR),(S.fr' rfl),cr,ct,cy,cz,(Zob a9).2⟩
  have H:=Zaa H ah;refine Z4 S rfl ah (wp_exit (Zqb ?_));obtain rfl:=Zw H;have hq:=b9 _ rfl;subst hq;have H:=b6;refine Zqb (ZVd ?_);obtain rfl:=Zw H;refine Zi (b4 _ _ ⟨_,_,ap,C,D,s,aq,E,ab,o,_,rfl,(leT (leR _) aP),(S.fr' rfl),ad,ae,af,ag⟩)
 rintro f w ⟨G,I,J,B,L,an,Y,M,Z,aO,aa,hq,dH,S,ai,cA,cC,cD⟩;subst hq;have H:=b3;refine Zi (bZ _ _ (Zp λ_ cE=>bO H λdI cF H=>bO H λdJ cH H=>bO H λdK cI H=>ZD (mv S rfl λf S=>?_)));obtain⟨dL,cJ,S,cK⟩:=S.pubSlice (i:=1) (A:=(Zd .u64)) (l:=I) (ℓ':=[Loc.own J 143 1 B L an]) rfl rfl cD cC rfl;have ai:=Z0 cJ ai;refine opc S rfl (ZO S [.slice (mkA Y) M Z] Zhm rfl rfl) (Zjm S.vin (show Rep.rel (ZA (Zd .u64)) _ [.slice (mkA Y) M Z] I from cK) cF) ?_;rintro _ dM f w cL ⟨dN,rfl,ar⟩ S;have ai:=Z0 cL ai;obtain⟨cM,cN,cO,rfl⟩:=ZNa ar;refine mv S rfl λf S=>?_;obtain⟨dO,cP,S,cQ⟩:=S.pubSlice (i:=0) (A:=(Zd .u64)) (l:=G) (ℓ':=[]) rfl rfl cA ai rfl;refine opc S rfl (ZO S [.slice (mkA J) B L] Zhm rfl rfl) (Zjm S.vin (show Rep.rel (ZA (Zd .u64)) _ [.slice (mkA J) B L] G from cQ) cH) ?_;rintro _ dP f w cR ⟨dQ,rfl,ba⟩ S;obtain⟨cS,cU,cV,rfl⟩:=ZNa ba;refine mv S rfl λf S=>opc S rfl (ZO S [.slice cS cU cV,.int .i64 k] k_en127 rfl rfl) (right_c S.vin ba (show Rep.rel (Zd .i64) _ [.int .i64 k] k from (ZJ aD)) cI) ?_;rintro _ dR f w cW ⟨dS,rfl,bb⟩ S;obtain⟨cX,cY,cZ,rfl⟩:=ZNa bb
 refine mw S rfl λf S=>mw S rfl λf S=>Zz (Zi (cE _ _ (wp_ret ?_)));obtain rfl:=Zw H;have ar:=ZRa (leT (leT cP cR) cW) ar;refine Zva S (ZFc rfl (ZP S rfl) (ZP S rfl)) ⟨[.slice cM cN cO],[.slice cX cY cZ],rfl,ar,bb⟩
theorem Zkx {d:World} {c:Zb} (hv:VIn c d) {e:List Value} {a:Nat} (i:Rep.rel Zx c e a) {f:List Value} {b:Nat} (j:Rep.rel Zx c f b) {z:Nat×Nat} (hm:Zce a b=some z) :
  Ret Tryz.prog 86 #[Zx.val e,Zx.val f] d c (λy v'=>∃ g h,y=Value.tuple #[Zx.val g,Zx.val h]∧Zx.rel v' g z.1∧Zx.rel v' h z.2) :=
 Zxx hv i j (Z3x hm)
noncomputable def Zbl:FuncId×Con:=(86,⟨[.leaf 0,.leaf 0],[.leaf 0,.leaf 0],λp=>Zce p.1 p.2⟩)
theorem Z7v:Zpe Tryz.prog Zbl.1 Zbl.2:=λw v vals x z hv ha hz=>by
 obtain⟨c0,w0,e0,p0,c1,e1,p1⟩:=ha;subst e0;subst e1
 exact .inl ⟨λ_ _=>by kernel_rfl,Ret.mono (Zkx hv p0 p1 hz) λy v' _ ⟨r0,r1,e,h0,h1⟩=>⟨_,e,r0,_,rfl,h0,r1,rfl,h1⟩⟩
noncomputable def Zdv:FuncId×Con:=(123,⟨[.leaf 0,.leaf 0],[.int .u64],λp=>Zfh p.1 p.2⟩)
theorem small_k:KQ Zdv:=Zl (ZF (C:=cf2 [(34,0)] []) (.n (.n (.two (.n (.j [1] [] [.s 5 (.dat (.int .u64))] .no)) (.n (.f (.j [] [] [.s 5 (.dat (.int .u64))] (.f (.l [] [] [.s 5 (.dat (.int .u64)),.s 6 (.dat (.int .u64))] 0 [] [] [.s 5 (.dat (.int .u64))] .no)))))))) Tryz.func123 [] (λv vals x z ha hz=>.trans (by kernel_rfl) (ZzA hz)))
noncomputable def gcd_q:FuncId×Con:=(84,⟨[.leaf 0,.leaf 0],[.leaf 0],λp=>gcdF p.1 p.2⟩)
theorem gcd_k:KQ gcd_q:=Zl (ZF (C:=cf2 [(34,0)] [Zbl,Zxj,Zdv]) (.n (.f (.cut ⟨⟨[],[],[]⟩,[(.norm,⟨[],[],[.s 0 (.dat (.leaf 0))]⟩),(.ret,⟨[],[],[.s 1000 (.dat (.leaf 0))]⟩)]⟩ (.f (.cut ⟨⟨[],[],[.s 0 (.dat (.leaf 0)),.s 1 (.dat (.leaf 0))]⟩,[(.ret,⟨[],[],[.s 1000 (.dat (.leaf 0))]⟩),(.exit 0,⟨[],[],[.s 0 (.dat (.leaf 0))]⟩)]⟩ (.f (.n (.f (.f (.f (.j [0,1] [] [.s 17 (.dat .bool)] .no))))))))))) Tryz.func84 [] (λv vals x z ha hz=>.trans (by kernel_rfl) (gcdF_eq hz)) ⟨Z7v,Zjn,small_k,tr⟩)
noncomputable def ZGo:FuncId×Con:=(85,⟨[.leaf 0],[.bool],λp=>ZJg p⟩)
theorem ZSq:KQ ZGo:=Zl (Z1l (C:=cf2 [] []) (.n (.f (.j [] [] [.s 2 (.dat .bool)] .no))) Tryz.func85 [] [.slice (.int .u64)] [.bool] (λx=>((Zc 18446744073709551616 x))) (λz=>z) (λv vals x z ha hz=>.trans (by kernel_rfl) (ZmB.trans hz)))
noncomputable def ZQh:FuncId×Con:=(50,⟨[.leaf 2,.leaf 0],[.leaf 3],λp=>ZVc p.1 p.2⟩)
theorem ZLr:KR ZQh:=ZF (C:=cf0 [gcd_q,ZGo,Zbl] [] [] []) (.n (.two (.n (.n (.j [2,4] [] [.s 1 (.dat (.leaf 0)),.l (.sl 2) (.box 36 (.dat (.pair .bool (.leaf 0))))] .no))) (.f (.n (.j [2,4] [] [.s 1 (.dat (.leaf 0))] .no))))) Tryz.func50 [] (λv vals x z ha hz=>.trans (by kernel_rfl) (ZTz hz)) ⟨gcd_k,ZSq,Z7v,tr⟩
theorem ZZk:KQ ZQh:=Zl ZLr
noncomputable def Z7l:FuncId×Con:=(52,⟨[.leaf 0],[.leaf 0],λp=>Ztd p⟩)
theorem ZCo:KQ Z7l:=Zl (ZF (C:=cf0 [Zxj] [] [] []) .no Tryz.func52 [] (λv vals x z ha hz=>.trans (by kernel_rfl) (ZtC hz)) ⟨Zjn,tr⟩)
noncomputable def Zzl:FuncId×Con:=(90,⟨[.int .u64,.int .u64,.int .u64],[.int .u64,.int .u64],λp=>ZZb p.1 p.2.1 p.2.2⟩)
theorem ZYq:Zpe Tryz.prog Zzl.1 Zzl.2:=λw v vals x z _ ha hz=>by
 obtain⟨c0,w0,e0,p0,c1,w1,e1,p1,c2,e2,p2⟩:=ha
 subst e0 e1 e2
 obtain⟨rfl,h0⟩:=p0
 obtain⟨rfl,h1⟩:=p1
 obtain⟨rfl,h2⟩:=p2
 have p0:(Zd .u64).rel v [.int .u64 x.1] x.1:=⟨rfl,h0⟩
 have p1:(Zd .u64).rel v [.int .u64 x.2.1] x.2.1:=⟨rfl,h1⟩
 exact .inr ⟨.tuple #[.int .u64 z.1,.int .u64 z.2],λw=>ZYo (show Zcd Tryz.prog 90 add64Entry from ⟨_,Tryz.func90,by kernel_rfl,by kernel_rfl,by kernel_rfl,by kernel_rfl⟩) hz w,_,rfl,_,_,rfl,⟨rfl,Zfo hz⟩,_,rfl,⟨rfl,addW_hi p0.2 p1.2 hz⟩⟩
noncomputable def ZYh:FuncId×Con:=(53,⟨[.leaf 0,.leaf 0],[.leaf 0],λp=>Z0c p.1 p.2⟩)
theorem ZBi:KQ ZYh:=Zl (ZF (C:=cf2 [(34,0)] [ZGo,Zvo,Zzl,Ztf]) (.n (.n (.n (.n (.f (.n (.j [] [] [.s 5 (.own 143 (.int .u64))] (.f (.l [1,26,27] [] [.s 5 (.own 143 (.int .u64)),.s 28 (.dat (.int .i64))] 0 [] [] [.s 5 (.own 143 (.int .u64))] (.f (.n (.n (.f (.f (.n (.n (.f (.n (.j [1,6,26,27,28] [] [.s 5 (.own 143 (.int .u64)),.s 8 (.dat (.int .u64))] (.f (.l [1,6,7,26,27,28,33,34] [] [.s 5 (.own 143 (.int .u64)),.s 8 (.dat (.int .u64)),.s 35 (.dat (.int .i64))] 2 [1,6,26,27,28] [] [.s 5 (.own 143 (.int .u64)),.s 8 (.dat (.int .u64))] .no))))))))))))))))))))) Tryz.func53 [] (λv vals x z ha hz=>.trans (by kernel_rfl) (ZcA hz)) ⟨ZSq,mul64_k,ZYq,Zgi,tr⟩)
noncomputable def ZXf:FuncId×Con:=(87,⟨[.bool,.leaf 0],[.leaf 2],λp=>Zlb p.1 p.2⟩)
theorem Z1q:KR ZXf:=ZF (C:=cf0 [] [] [] []) (.n (.f (.j [4] [] [.l (.sl 4) (.box 36 (.dat (.pair .bool (.leaf 0))))] .no))) Tryz.func87 [] (λv vals x z ha hz=>.trans (by kernel_rfl) (ZzB hz))
theorem Zei:KQ ZXf:=Zl Z1q
noncomputable def Z8m:FuncId×Con:=(79,⟨[.leaf 2,.leaf 0],[.leaf 2],λp=>Z4f p.1 p.2⟩)
theorem Zuu:KQ Z8m:=Zl (ZF (C:=cf0 [ZYh,ZXf] [] [] []) .no Tryz.func79 [] (λv vals x z ha hz=>.trans (by kernel_rfl) (ZGz hz)) ⟨ZBi,Zei,tr⟩)
noncomputable def Zft:FuncId×Con:=(120,⟨[.leaf 0,.leaf 0],[.leaf 0],λp=>Zoj p.1 p.2⟩)
theorem plus_k:KQ Zft:=Zl (ZF (C:=cf2 [(34,0)] [Zzl]) (.n (.two (.n (.j [] [] [.s 0 (.dat (.leaf 0)),.s 1 (.dat (.leaf 0))] .no)) (.n (.n (.two (.n (.j [] [] [.s 5 (.own 143 (.int .u64)),.s 6 (.dat (.int .u64))] (.f (.l [1,23,24] [] [.s 5 (.own 143 (.int .u64)),.s 6 (.dat (.int .u64)),.s 25 (.dat (.int .i64))] 0 [] [] [.s 5 (.own 143 (.int .u64)),.s 6 (.dat (.int .u64))] (.f (.n (.n (.f (.f (.n (.n (.f (.n (.j [1,5,6,7,8,23,24,25] [] [.s 9 (.dat (.int .u64))] .no)))))))))))))) (.f (.n (.j [] [] [.s 5 (.own 143 (.int .u64))] .no)))))))) Tryz.func120 [] (λv vals x z ha hz=>.trans (by kernel_rfl) (Z4y hz)) ⟨ZYq,tr⟩)
noncomputable def ZAp:FuncId×Con:=(148,⟨[.int .u64,.int .u64,.int .u64],[.int .u64,.int .u64],λp=>Zvd p.1 p.2.1 p.2.2⟩)
theorem sub64_k:Zpe Tryz.prog ZAp.1 ZAp.2:=λw v vals x z _ ha hz=>by
 obtain⟨c0,w0,e0,p0,c1,w1,e1,p1,c2,e2,p2⟩:=ha
 subst e0 e1 e2
 obtain⟨rfl,h0⟩:=p0
 obtain⟨rfl,h1⟩:=p1
 obtain⟨rfl,h2⟩:=p2
 have p0:(Zd .u64).rel v [.int .u64 x.1] x.1:=⟨rfl,h0⟩
 have p1:(Zd .u64).rel v [.int .u64 x.2.1] x.2.1:=⟨rfl,h1⟩
 exact .inr ⟨.tuple #[.int .u64 z.1,.int .u64 z.2],λw=>Zkt (show Zcd Tryz.prog 148 Zmm from ⟨_,Tryz.func148,by kernel_rfl,by kernel_rfl,by kernel_rfl,by kernel_rfl⟩) p0.2 p1.2 hz w,_,rfl,_,_,rfl,⟨rfl,Z2s hz⟩,_,rfl,⟨rfl,ZUt hz⟩⟩
noncomputable def Zxu:FuncId×Con:=(121,⟨[.leaf 0,.leaf 0],[.leaf 0],λp=>ZEh p.1 p.2⟩)
theorem minus_k:KQ Zxu:=Zl (ZF (C:=cf2 [(34,0)] [Ztf,ZAp]) (.n (.n (.n (.f (.n (.j [] [] [.s 5 (.own 143 (.int .u64))] (.f (.l [1,13,14] [] [.s 5 (.own 143 (.int .u64)),.s 6 (.dat (.int .u64)),.s 15 (.dat (.int .i64))] 0 [] [] [.s 5 (.own 143 (.int .u64))] (.f (.n (.n (.f (.f (.n (.n (.f (.n (.j [1,5,6,7,8,13,14,15] [] [.s 9 (.dat (.int .u64))] .no)))))))))))))))))) Tryz.func121 [] (λv vals x z ha hz=>.trans (by kernel_rfl) (Zuz hz)) ⟨Zgi,sub64_k,tr⟩)
noncomputable def ZPt:FuncId×Con:=(80,⟨[.leaf 2,.leaf 2],[.leaf 2],λp=>Z4i p.1 p.2⟩)
theorem iplus_k:KQ ZPt:=Zl (ZF (C:=cf0 [cmp_q,ZXf,Zft,Zxu] [] [] []) .no Tryz.func80 [] (λv vals x z ha hz=>.trans (by kernel_rfl) (ZOz hz)) ⟨cmp_k,Zei,plus_k,minus_k,tr⟩)
noncomputable def ZSg:FuncId×Con:=(42,⟨[.leaf 3,.leaf 3],[.leaf 3],λp=>Z3b p.1 p.2⟩)
theorem Zrh:KQ ZSg:=Zl (ZF (C:=cf0 [ZQh,Z7l,ZYh,Z8m,ZPt] [] [] []) .no Tryz.func42 [] (λv vals x z ha hz=>.trans (by kernel_rfl) (ZoB hz)) ⟨ZZk,ZCo,ZBi,Zuu,iplus_k,tr⟩)
noncomputable def Zqr:FuncId×Con:=(122,⟨[.leaf 2],[.leaf 2],λp=>ZAi p⟩)
theorem Znz:KQ Zqr:=Zl (ZF (C:=cf0 [ZXf] [] [] []) .no Tryz.func122 [] (λv vals x z ha hz=>.trans (by kernel_rfl) (Zow hz)) ⟨Zei,tr⟩)
noncomputable def Zff:FuncId×Con:=(81,⟨[.leaf 3],[.leaf 3],λp=>Zeb p⟩)
theorem ZPf:KQ Zff:=Zl (ZF (C:=cf0 [Zqr] [] [] []) .no Tryz.func81 [] (λv vals x z ha hz=>.trans (by kernel_rfl) (ZAA hz)) ⟨Znz,tr⟩)
noncomputable def ZKf:FuncId×Con:=(54,⟨[.leaf 3,.leaf 3],[.leaf 3],λp=>Zvb p.1 p.2⟩)
theorem Zsg:KQ ZKf:=Zl (ZF (C:=cf0 [ZSg,Zff] [] [] []) .no Tryz.func54 [] (λv vals x z ha hz=>.trans (by kernel_rfl) (ZVy hz)) ⟨Zrh,ZPf,tr⟩)
noncomputable def ZOe:FuncId×Con:=(19,⟨[.leaf 3,.leaf 3],[.int .i64],λp=>Z4b p.1 p.2⟩)
theorem ZQf:KQ ZOe:=Zl (ZF (C:=cf0 [ZUc,ZKf] [] [] []) .no Tryz.func19 [] (λv vals x z ha hz=>.trans (by kernel_rfl) (Z0y hz)) ⟨Zed,Zsg,tr⟩)
noncomputable def Zct:FuncId×Con:=(40,⟨[.pair (.leaf 3) (.slice (.pair (.leaf 3) (.leaf 3)))],[.int .i64],λp=>Z0v p⟩)
theorem ZbA:KQ Zct:=Zl (ZM (C:=cf0 [ZOe,ZUc] [] [] []) (.n (.n (.f (.n (.cut ⟨⟨[],[],[]⟩,[(.norm,⟨[],[],[]⟩),(.ret,⟨[],[],[.s 1000 (.dat (.int .i64))]⟩)]⟩ (.f (.cut ⟨⟨[1,16,17],[],[.s 18 (.dat (.int .i64))]⟩,[(.ret,⟨[],[],[.s 1000 (.dat (.int .i64))]⟩),(.exit 1,⟨[],[],[]⟩)]⟩ (.f (.n (.n (.f (.f (.n (.two (.f (.j [1,3,4,16,17,18] [] [.s 32 (.dat .bool)] .no)) (.f (.j [1,16,17,18] [] [.s 47 (.dat .bool)] .no)))))))))))))))) Tryz.func40 [] (λ_=>by kernel_rfl) ⟨ZQf,Zed,tr⟩)
noncomputable def ZHq:FuncId×Con:=(51,⟨[.leaf 2,.leaf 2],[.leaf 2],λp=>ZCj p.1 p.2⟩)
theorem ZBB:KQ ZHq:=Zl (ZF (C:=cf0 [ZYh,ZXf] [] [] []) .no Tryz.func51 [] (λv vals x z ha hz=>.trans (by kernel_rfl) (Zny hz)) ⟨ZBi,Zei,tr⟩)
noncomputable def ZEg:FuncId×Con:=(18,⟨[.leaf 3,.leaf 3],[.leaf 3],λp=>ZSa p.1 p.2⟩)
theorem Z6g:KQ ZEg:=Zl (ZF (C:=cf0 [ZQh,ZHq,Z7l,ZYh] [] [] []) .no Tryz.func18 [] (λv vals x z ha hz=>.trans (by kernel_rfl) (ZWz hz)) ⟨ZZk,ZBB,ZCo,ZBi,tr⟩)
noncomputable def Zri:FuncId×Con:=(17,⟨[.leaf 3],[.bool],λp=>ZNc p⟩)
theorem ZQl:KQ Zri:=Zl (ZF (C:=cf0 [] [] [] []) .no Tryz.func17 [] (λv vals x z ha hz=>.trans (by kernel_rfl) (Zay hz)))
noncomputable def ZFg:FuncId×Con:=(82,⟨[.leaf 3,.leaf 3],[.leaf 3,.int .i64],λp=>Zbd p.1 p.2⟩)
theorem Zlh:KQ ZFg:=Zl (ZF (C:=cf0 [Zri,ZQh,Z7l,ZYh,Z8m,ZXf] [] [] []) (.n (.n (.f (.j [2,3,4] [] [.s 6 (.box 36 (.dat (.leaf 2)))] .no)))) Tryz.func82 [] (λv vals x z ha hz=>.trans (by kernel_rfl) (ZCz hz)) ⟨ZQl,ZZk,ZCo,ZBi,Zuu,Zei,tr⟩)
noncomputable def ZBp:FuncId×Con:=(44,⟨[.leaf 3,.leaf 3],[.leaf 3,.leaf 3],λp=>ZPi p.1 p.2⟩)
theorem Zkw:KQ ZBp:=Zl (ZM (C:=cf0 [ZEg,Z4h,ZSg,ZFg] [] [] []) (.n (.n (.n (.f (.j [4,5,6,7] [] [.s 8 (.box 38 (.dat (.leaf 3)))] .no))))) Tryz.func44 [] (λ_=>by kernel_rfl) ⟨Z6g,ZRi,Zrh,Zlh,tr⟩)
noncomputable def Zzm:FuncId×Con:=(58,⟨[.pair (.leaf 3) (.slice (.pair (.leaf 3) (.leaf 3))),.leaf 3],[.leaf 3,.leaf 3],λp=>Zuh p.1 p.2⟩)
theorem Zhr:KQ Zzm:=Zl (ZM (C:=cf0 [ZEg,ZSg,ZBp] [] [] []) (.n (.n (.f (.n (.j [4,5,6,7] [] [.l (.sl 6) (.box 38 (.dat (.leaf 3))),.l (.sl 7) (.box 38 (.dat (.leaf 3)))] (.f (.l [3,4,5,6,7,16,17] [] [.l (.sl 6) (.box 38 (.dat (.leaf 3))),.l (.sl 7) (.box 38 (.dat (.leaf 3))),.s 18 (.dat (.int .i64))] 0 [4,5,6,7] [] [.l (.sl 6) (.box 38 (.dat (.leaf 3))),.l (.sl 7) (.box 38 (.dat (.leaf 3)))] .no))))))) Tryz.func58 [] (λ_=>by kernel_rfl) ⟨Z6g,Zrh,Zkw,tr⟩)
noncomputable def ZIu:FuncId×Con:=(24,⟨[.pair (.leaf 3) (.slice (.pair (.leaf 3) (.leaf 3))),.leaf 3],[.leaf 3,.leaf 3,.int .i64],λp=>ZSr p.1 p.2⟩)
theorem ZJz:KQ ZIu:=Zl (ZM (C:=cf0 [Zct,ZUc,Zzm] [] [] []) .no Tryz.func24 [] (λ_=>by kernel_rfl) ⟨ZbA,Zed,Zhr,tr⟩)
theorem of_c {c:World} {a:Zb} (hv:VIn a c) {b:List Value} {n:Int} (e:Rep.rel (Zd .i64) a b n) {z:Int} (hm:ofF n=some z) :
  Ret Tryz.prog 57 #[(Zd .i64).val b] c a (λy v'=>∃ d,y=Zsb.val d∧Zsb.rel v' d z) :=
 (of_r c a [(Zd .i64).val b] (n) z hv ⟨b,rfl,e⟩ hm).2
theorem over_c {e:World} {a:Zb} (hv:VIn a e) {b:List Value} {n:Int} (g:Rep.rel Zsb a b n) {c:List Value} {d:Nat} (h:Rep.rel Zx a c d) {z:Rat} (hm:ZVc n d=some z) :
  Ret Tryz.prog 50 #[Zsb.val b,Zx.val c] e a (λy v'=>∃ f,y=ZW.val f∧ZW.rel v' f z) :=
 (ZLr e a [Zsb.val b,Zx.val c] (n,d) z hv ⟨b,_,rfl,g,c,rfl,h⟩ hm).2
theorem whole_c {d:World} {a:Zb} (hv:VIn a d) {b:List Value} {s:Bool} (f:Rep.rel Zzb a b s) {c:List Value} {n:Nat} (g:Rep.rel Zx a c n) {z:Int} (hm:Zlb s n=some z) :
  Ret Tryz.prog 87 #[Zzb.val b,Zx.val c] d a (λy v'=>∃ e,y=Zsb.val e∧Zsb.rel v' e z) :=
 (Z1q d a [Zzb.val b,Zx.val c] (s,n) z hv ⟨b,_,rfl,f,c,rfl,g⟩ hm).2
theorem Zcu {b:World} {a:Zb} (hv:VIn a b) {c:List Value} {fv:Nat} (e:Rep.rel (ZH .f64) a c fv) {z:Nat} (H:Zak fv=some z):Ret Tryz.prog 170 #[(ZH .f64).val c] b a (λy v'=>∃ d,y=(ZH .f64).val d∧(ZH .f64).rel v' d z):=by
 obtain⟨rfl,g⟩:=e;refine Z1b (K:=7) (args:=[.float .f64 fv]) hv Tryz.func170 rfl rfl zl λf S=>?_;unfold Zak at H;refine sr (mw S rfl λf S=>oe (sr (mv S rfl λf S=>ov S rfl (ZHc S [.float .f64 fv] (Z8i ZEi) rfl rfl) λf S=>ov S rfl (Zu S rfl rfl Z5j) λf S=>ov S rfl (ZHc S [.int .u64 (Zwc .u64 ((fv:Int)) (9223372036854775808:Int))] (ZUj ZXj) rfl rfl) λf S=>mw S rfl λf S=>oe (wp_ret ?_))));obtain rfl:=Zw H;refine Zva S (Z0a rfl (ZP S rfl)) ⟨[.float .f64 ((Zwc .u64 ((fv:Int)) (9223372036854775808:Int)).toNat)],rfl,(Zia (Ztm (ZHb _ _)))⟩
theorem ZDr {d:World} {c:Zb} (hv:VIn c d) {e:List Value} {x:Nat} (i:Rep.rel (ZH .f64) c e x) {z:Nat×Int} (H:Z3l x=some z):Ret Tryz.prog 180 #[(ZH .f64).val e] d c (λy v'=>∃ g a,y = .tuple #[(ZH .f64).val g,(Zd .i64).val a]∧(ZH .f64).rel v' g z.1∧(Zd .i64).rel v' a z.2):=by
 obtain⟨rfl,a⟩:=i;refine Z1b (K:=10) (args:=[.float .f64 x]) hv Tryz.func180 rfl rfl zl λf S=>?_;unfold Z3l at H;refine sr (mw S rfl λf S=>mw S rfl λf S=>oe (Zp λ_ j=>Zp λ_ k=>bO H λl m H=>ZD (mv S rfl λf S=>opc S rfl (ZO S [.float .f64 x] Zvs rfl rfl) (Zcu S.vin (show Rep.rel (ZH .f64) _ [.float .f64 x] x from (Zia a)) m) ?_)));rintro _ q f w r ⟨s,rfl,n⟩ S;obtain⟨rfl,t⟩:=n;refine ov S rfl (Zaw S rfl rfl) λf S=>Zz (Zi (k _ _ ?_));rcases Zca (fLt .f64 l ((4503599627370496:Nat))) with b | b
 ·have H:=Zba H b;refine Zna S rfl b (Zp λ_ o=>bO H λp h H=>ZD (mv S rfl λf S=>ov S rfl (Zjq S rfl rfl h) λf S=>mw S rfl λf S=>mw S rfl λf S=>Zz (Zi (o _ _ (wp_ret (Z8b ?_))))));obtain rfl:=Zw H;refine Zva S (ZFc rfl (ZP S rfl) (ZP S rfl)) ⟨[.float .f64 p],[.int .i64 (-52:Int)],rfl,(Zia (ZHe h).2),(ZJ (by decide))⟩
 have H:=Zaa H b;refine Z4 S rfl b (wp_skip (Zi (j _ _ (sr (mv S rfl λf S=>mw S rfl λf S=>mw S rfl λf S=>oe (wp_ret ?_))))));obtain rfl:=Zw H;refine Zva S (ZFc rfl (ZP S rfl) (ZP S rfl)) ⟨[.float .f64 x],[.int .i64 0],rfl,(Zia a),(ZJ (by decide))⟩
theorem Z8n {e:World} {a:Zb} (hv:VIn a e) {j:List Value} {fv:Nat} (q:Rep.rel (ZH .f64) a j fv) {k:List Value} {sign:Int} (r:Rep.rel (Zd .i64) a k sign) {z:Bool} (H:ZVh fv sign=some z):Ret Tryz.prog 152 #[(ZH .f64).val j,(Zd .i64).val k] e a (λy v'=>∃ l,y=Zzb.val l∧Zzb.rel v' l z):=by
 obtain⟨rfl,m⟩:=q;obtain⟨rfl,J⟩:=r;refine Z1b (K:=15) (args:=[.float .f64 fv,.int .i64 sign]) hv Tryz.func152 rfl rfl zl λf S=>?_;unfold ZVh at H;refine sr (mw S rfl λf S=>oe (Zp λ_ s=>sr (mv S rfl λf S=>ov S rfl (Zu S rfl rfl ZWg) λf S=>oe ?_)));obtain⟨t,u,v⟩:=Z8 H;refine ZJb (λf w=>∃ b h,b=t∧Zb.le a h∧St 15 e a [(0,.float .f64 b)] [] h f w∧b<18446744073709551616) (λ_ n=>?_) ?_
 ·have H:=u;rcases Zca (sign==(0:Int)) with c | c
  ·have H:=Zba H c;refine Zna S rfl c (bO H λL x H=>ZD (mv S rfl λf S=>opc S rfl (ZO S [.float .f64 fv] Zvs rfl rfl) (Zcu S.vin (show Rep.rel (ZH .f64) _ [.float .f64 fv] fv from (Zia m)) x) ?_));rintro _ M f w A ⟨N,rfl,B⟩ S;obtain⟨rfl,C⟩:=B;refine mw S rfl λf S=>Zz ?_;obtain rfl:=Zw H;refine Zi (n _ _ ⟨_,_,rfl,(leT (leR _) A),(S.fr' rfl),C⟩)
  have H:=Zaa H c;refine Z4 S rfl c (sr (mv S rfl λf S=>ov S rfl (Zu S rfl rfl Zhd) λf S=>oe ?_));obtain⟨D,E,F⟩:=Z8 H;refine ZJb (λf w=>∃ g i,g=D∧Zb.le a i∧St 15 e a [(0,.float .f64 g)] [] i f w∧g<18446744073709551616) (λ_ o=>?_) ?_
  ·have H:=E;rcases Zca (decide (sign<(0:Int))) with d | d
   ·have H:=Zba H d;refine Zna S rfl d (bO H λO p H=>ZD (mv S rfl λf S=>ov S rfl (ZUw S rfl p) λf S=>mw S rfl λf S=>Zz ?_));obtain rfl:=Zw H;refine Zi (o _ _ ⟨_,_,rfl,(leR _),(S.fr' rfl),(ZHe p).2⟩)
   have H:=Zaa H d;refine Z4 S rfl d (wp_skip ?_);obtain rfl:=Zw H;refine Zi (o _ _ ⟨_,_,rfl,(leR _),(S.fr' rfl),m⟩)
  rintro f w ⟨g,i,hq,G,S,I⟩;subst hq;have H:=F;obtain rfl:=Zw H;refine Zi (n _ _ ⟨_,_,rfl,(leT (leR _) G),(S.fr' rfl),I⟩)
 rintro f w ⟨b,h,hq,P,S,Q⟩;subst hq;have H:=v;refine Zi (s _ _ (sr (mv S rfl λf S=>ov S rfl (run_fGt S rfl rfl) λf S=>mw S rfl λf S=>oe (wp_ret ?_))));obtain rfl:=Zw H;refine Zva S (Z0a rfl (ZP S rfl)) ⟨[.bool (fGt .f64 b ((9218868437227405311:Nat)))],rfl,ZWj⟩
theorem Zcn {b:World} {a:Zb} (hv:VIn a b) {c:List Value} {fv:Nat} (e:Rep.rel (ZH .f64) a c fv) {z:Bool} (H:ZDf fv=some z):Ret Tryz.prog 151 #[(ZH .f64).val c] b a (λy v'=>∃ d,y=Zzb.val d∧Zzb.rel v' d z):=by
 obtain⟨rfl,g⟩:=e;refine Z1b (K:=6) (args:=[.float .f64 fv]) hv Tryz.func151 rfl rfl zl λf S=>?_;unfold ZDf at H;refine sr (mw S rfl λf S=>oe (sr (mv S rfl λf S=>mv S rfl λf S=>ov S rfl (run_fNe S rfl rfl) λf S=>mw S rfl λf S=>oe (wp_ret ?_))));obtain rfl:=Zw H;refine Zva S (Z0a rfl (ZP S rfl)) ⟨[.bool (fNe .f64 fv fv)],rfl,ZWj⟩
theorem frexp_w {j:World} {c:Zb} (hv:VIn c j) {l:List Value} {fv:Nat} (r:Rep.rel (ZH .f64) c l fv) {z:Nat×Int} (H:Zyn fv=some z):Ret Tryz.prog 172 #[(ZH .f64).val l] j c (λy v'=>∃ m a,y = .tuple #[(ZH .f64).val m,(Zd .i64).val a]∧(ZH .f64).rel v' m z.1∧(Zd .i64).rel v' a z.2):=by
 obtain⟨rfl,a⟩:=r;refine Z1b (K:=38) (args:=[.float .f64 fv]) hv Tryz.func172 rfl rfl zl λf S=>?_;unfold Zyn at H;refine sr (mw S rfl λf S=>mw S rfl λf S=>oe (Zp λ_ s=>wp_block (sr (mv S rfl λf S=>ov S rfl (ZRv S rfl rfl) λf S=>mw S rfl λf S=>oe ?_))));rcases Zca (fEq .f64 fv ((0:Nat))) with d | d
 ·have H:=Zba H d;refine Zna S rfl d (sr (mv S rfl λf S=>mw S rfl λf S=>mw S rfl λf S=>oe (wp_ret (Zoh (Z8b ?_)))));obtain rfl:=Zw H;refine Zva S (ZFc rfl (ZP S rfl) (ZP S rfl)) ⟨[.float .f64 fv],[.int .i64 0],rfl,(Zia a),(ZJ (by decide))⟩
 have H:=Zaa H d;refine Z4 S rfl d (Zp λ_ u=>?_);obtain⟨v,x,A⟩:=Z8 H;refine ZJb (λf w=>∃ h k,h=v∧Zb.le c k∧St 38 j c [(0,.float .f64 fv),(9,.bool h)] [] k f w) (λ_ n=>?_) ?_
 ·have H:=x;refine bO H λB C H=>ZD (mv S rfl λf S=>opc S rfl (ZO S [.float .f64 fv,.int .i64 0] ZBo rfl rfl) (Z8n S.vin (show Rep.rel (ZH .f64) _ [.float .f64 fv] fv from (Zia a)) (show Rep.rel (Zd .i64) _ [.int .i64 0] (0:Int) from (ZJ (by decide))) C) ?_);rintro _ R f w o ⟨T,rfl,D⟩ S;obtain rfl:=D;refine mv S rfl λf S=>?_;rcases Zca (B) with e | e
  ·have H:=Zba H e;have S:=S.bool (t:=12) rfl e;refine opn S rfl rfl rfl rfl λf S=>opn S rfl rfl rfl rfl λf S=>ov S rfl (Zyc S (b:=true) rfl rfl) λf S=>mw S rfl λf S=>Zz ?_;obtain rfl:=Zw H;refine Zi (n _ _ ⟨_,_,rfl,(leT (leR _) o),(S.fr' rfl)⟩)
  have H:=Zaa H e;have S:=S.bool (t:=12) rfl e;refine bO H λU E H=>opy S rfl rfl rfl rfl (ZK S rfl) λf S=>Zjj S (ZYd S rfl rfl rfl zl) rfl zl (ZO S [.float .f64 fv] Znn rfl rfl) (Zcn S.vin (show Rep.rel (ZH .f64) _ [.float .f64 fv] fv from (Zia a)) E) ?_;rintro _ V f w F ⟨W,rfl,G⟩ S;obtain rfl:=G;refine ov S rfl (Zyc S (b:=false) rfl rfl) λf S=>mw S rfl λf S=>Zz ?_;obtain rfl:=Zw H;refine Zi (n _ _ ⟨_,_,rfl,(leT (leT (leR _) o) F),(S.fr' rfl)⟩)
 rintro f w ⟨h,k,hq,X,S⟩;subst hq;have H:=A;refine Zi (u _ _ ?_);rcases Zca (h) with g | g
 ·have H:=Zba H g;refine Zna S rfl g (sr (mv S rfl λf S=>mw S rfl λf S=>mw S rfl λf S=>oe (wp_ret (Zoh (Z8b ?_)))));obtain rfl:=Zw H;refine Zva S (ZFc rfl (ZP S rfl) (ZP S rfl)) ⟨[.float .f64 fv],[.int .i64 0],rfl,(Zia a),(ZJ (by decide))⟩
 have H:=Zaa H g;refine Z4 S rfl g (wp_skip (Z5c (Zi (s _ _ (Zp λ_ I=>bO H λi J H=>ZD (mv S rfl λf S=>opc S rfl (ZO S [.float .f64 fv] Z7p rfl rfl) (ZDr S.vin (show Rep.rel (ZH .f64) _ [.float .f64 fv] fv from (Zia a)) J) ?_))))));rintro _ Y f w Z ⟨aa,ab,rfl,L,M⟩ S;obtain⟨rfl,ac⟩:=L;obtain⟨rfl,ad⟩:=M;refine mv S rfl λf S=>ov S rfl (Zja S rfl rfl) λf S=>ov S rfl (Zja S rfl rfl) λf S=>mw S rfl λf S=>mw S rfl λf S=>Zz (Zi (I _ _ (sr (mv S rfl λf S=>ov S rfl (ZHc S [.float .f64 i.1] (Z8i ZEi) rfl rfl) λf S=>mw S rfl λf S=>oe (Zp λ_ N=>bO H λae O H=>?_)))));refine bO H λaf P H=>bO H λag Q H=>bO H λp q H=>ZD (mv S rfl λf S=>mv S rfl λf S=>ov S rfl (Zu S rfl rfl (Zbn O)) λf S=>ov S rfl (Zu S rfl rfl Z5k) λf S=>ov S rfl (ZOd S rfl (Zxv _)) λf S=>ov S rfl (Zu S rfl rfl (ZDb P)) λf S=>ov S rfl (Zu S rfl rfl (ZZc Q)) λf S=>ov S rfl (Zu S rfl rfl (ZZc q)) λf S=>mw S rfl λf S=>Zz ?_);refine Zi (N _ _ (sr (mv S rfl λf S=>ov S rfl (Zu S rfl rfl Z5j) λf S=>mw S rfl λf S=>oe (sr (mv S rfl λf S=>ov S rfl (Zu S rfl rfl Znl) λf S=>mw S rfl λf S=>?_)))));have S:=S.fr' (σ':=[(3,.int .i64 p),(4,.int .u64 (orI .u64 (Zwc .u64 ((i.1:Int)) (9218868437227405312:Int)) (4602678819172646912:Int)))]) rfl
 refine oe (sr (mv S rfl λf S=>ov S rfl (ZHc S [.int .u64 (orI .u64 (Zwc .u64 ((i.1:Int)) (9218868437227405312:Int)) (4602678819172646912:Int))] (ZUj ZXj) rfl rfl) λf S=>mw S rfl λf S=>oe (wp_ret ?_)));obtain rfl:=Zw H;refine Zva S (ZFc rfl (ZP S rfl) (ZP S rfl)) ⟨[.float .f64 ((orI .u64 (Zwc .u64 ((i.1:Int)) (9218868437227405312:Int)) (4602678819172646912:Int)).toNat)],[.int .i64 p],rfl,(Zia (Ztm (ZHb _ _))),(ZJ (Zob q).2)⟩
theorem Frexp_w {c:World} {b:Zb} (hv:VIn b c) {d:List Value} {fv:Nat} (h:Rep.rel (ZH .f64) b d fv) {z:Nat×Int} (H:Zlo fv=some z):Ret Tryz.prog 153 #[(ZH .f64).val d] c b (λy v'=>∃ e a,y = .tuple #[(ZH .f64).val e,(Zd .i64).val a]∧(ZH .f64).rel v' e z.1∧(Zd .i64).rel v' a z.2):=by
 obtain⟨rfl,a⟩:=h;refine Z1b (K:=12) (args:=[.float .f64 fv]) hv Tryz.func153 rfl rfl zl λf S=>?_;unfold Zlo at H;refine sr (mw S rfl λf S=>mw S rfl λf S=>oe (Zp λ_ i=>Z4 S rfl rfl (wp_skip (Zi (i _ _ (Zp λ_ j=>bO H λg k H=>ZD (mv S rfl λf S=>opc S rfl (ZO S [.float .f64 fv] k_en172 rfl rfl) (frexp_w S.vin (show Rep.rel (ZH .f64) _ [.float .f64 fv] fv from (Zia a)) k) ?_)))))));rintro _ p f w q ⟨r,s,rfl,l,m⟩ S;obtain⟨rfl,n⟩:=l;obtain⟨rfl,o⟩:=m;refine ov S rfl (Zja S rfl rfl) λf S=>ov S rfl (Zja S rfl rfl) λf S=>mw S rfl λf S=>mw S rfl λf S=>Zz (Zi (j _ _ (wp_ret ?_)));obtain rfl:=Zw H;refine Zva S (ZFc rfl (ZP S rfl) (ZP S rfl)) ⟨[.float .f64 g.1],[.int .i64 (g.2)],rfl,(Zia n),(ZJ o)⟩
theorem ZIB {b:World} {a:Zb} (hv:VIn a b) {c:List Value} {fv:Nat} (g:Rep.rel (ZH .f64) a c fv) {d:List Value} {sign:Nat} (h:Rep.rel (ZH .f64) a d sign) {z:Nat} (H:ZYn fv sign=some z):Ret Tryz.prog 181 #[(ZH .f64).val c,(ZH .f64).val d] b a (λy v'=>∃ e,y=(ZH .f64).val e∧(ZH .f64).rel v' e z):=by
 obtain⟨rfl,i⟩:=g;obtain⟨rfl,j⟩:=h;refine Z1b (K:=13) (args:=[.float .f64 fv,.float .f64 sign]) hv Tryz.func181 rfl rfl zl λf S=>?_;unfold ZYn at H;refine sr (mw S rfl λf S=>oe (sr (mv S rfl λf S=>ov S rfl (ZHc S [.float .f64 fv] (Z8i ZEi) rfl rfl) λf S=>ov S rfl (Zu S rfl rfl Z5j) λf S=>mv S rfl λf S=>ov S rfl (ZHc S [.float .f64 sign] (Z8i ZEi) rfl rfl) λf S=>ov S rfl (Zu S rfl rfl Z5k) λf S=>ov S rfl (Zu S rfl rfl Znl) λf S=>ov S rfl (ZHc S [.int .u64 (orI .u64 (Zwc .u64 ((fv:Int)) (9223372036854775808:Int)) (ZPa .u64 ((sign:Int)) (9223372036854775808:Int)))] (ZUj ZXj) rfl rfl) λf S=>mw S rfl λf S=>oe ?_)));refine wp_ret ?_;obtain rfl:=Zw H;refine Zva S (Z0a rfl (ZP S rfl)) ⟨[.float .f64 ((orI .u64 (Zwc .u64 ((fv:Int)) (9223372036854775808:Int)) (ZPa .u64 ((sign:Int)) (9223372036854775808:Int))).toNat)],rfl,(Zia (Ztm (ZHb _ _)))⟩
theorem Zau {d:World} {b:Zb} (hv:VIn b d) {g:List Value} {sign:Int} (j:Rep.rel (Zd .i64) b g sign) {z:Nat} (H:ZKk sign=some z):Ret Tryz.prog 182 #[(Zd .i64).val g] d b (λy v'=>∃ h,y=(ZH .f64).val h∧(ZH .f64).rel v' h z):=by
 obtain⟨rfl,p⟩:=j;refine Z1b (K:=8) (args:=[.int .i64 sign]) hv Tryz.func182 rfl rfl zl λf S=>?_;unfold ZKk at H;refine sr (mw S rfl λf S=>oe (sr (mw S rfl λf S=>oe (Zp λ_ k=>sr (mv S rfl λf S=>ov S rfl (Zu S rfl rfl Zmj) λf S=>oe ?_)))));obtain⟨l,m,n⟩:=Z8 H;refine ZJb (λf w=>∃ a e,a=l∧Zb.le b e∧St 8 d b [(3,.int .u64 a)] [] e f w∧inR .u64 a) (λ_ i=>?_) ?_
 ·have H:=m;rcases Zca (decide ((0:Int)≤sign)) with c | c
  ·have H:=Zba H c;refine Zna S rfl c (ZD (mw S rfl λf S=>Zz ?_));obtain rfl:=Zw H;refine Zi (i _ _ ⟨_,_,rfl,(leR _),(S.fr' rfl),(by decide)⟩)
  have H:=Zaa H c;refine Z4 S rfl c (ZD (mw S rfl λf S=>Zz ?_));obtain rfl:=Zw H;refine Zi (i _ _ ⟨_,_,rfl,(leR _),(S.fr' rfl),(by decide)⟩)
 rintro f w ⟨a,e,hq,q,S,o⟩;subst hq;have H:=n;refine Zi (k _ _ (sr (mv S rfl λf S=>ov S rfl (ZHc S [.int .u64 a] (ZUj ZXj) rfl rfl) λf S=>mw S rfl λf S=>oe (wp_ret ?_))));obtain rfl:=Zw H;refine Zva S (Z0a rfl (ZP S rfl)) ⟨[.float .f64 a.toNat],rfl,(Zia (Ztm o))⟩
theorem ldexp_w {n:World} {c:Zb} (hv:VIn c n) {u:List Value} {frac:Nat} (I:Rep.rel (ZH .f64) c u frac) {v:List Value} {ex:Int} (J:Rep.rel (Zd .i64) c v ex) {z:Nat} (H:ZJn frac ex=some z):Ret Tryz.prog 174 #[(ZH .f64).val u,(Zd .i64).val v] n c (λy v'=>∃ x,y=(ZH .f64).val x∧(ZH .f64).rel v' x z):=by
 obtain⟨rfl,d⟩:=I;obtain⟨rfl,r2⟩:=J;refine Z1b (K:=63) (args:=[.float .f64 frac,.int .i64 ex]) hv Tryz.func174 rfl rfl zl λf S=>?_;unfold ZJn at H;refine sr (mw S rfl λf S=>oe (Zp λ_ L=>wp_block (sr (mv S rfl λf S=>ov S rfl (ZRv S rfl rfl) λf S=>mw S rfl λf S=>oe ?_))));rcases Zca (fEq .f64 frac ((0:Nat))) with e | e
 ·have H:=Zba H e;refine Zna S rfl e (sr (mv S rfl λf S=>mw S rfl λf S=>oe (wp_ret (Zoh (Z8b ?_)))));obtain rfl:=Zw H;refine Zva S (Z0a rfl (ZP S rfl)) ⟨[.float .f64 frac],rfl,(Zia d)⟩
 have H:=Zaa H e;refine Z4 S rfl e (Zp λ_ M=>?_);obtain⟨N,O,P⟩:=Z8 H;refine ZJb (λf w=>∃ o r,o=N∧Zb.le c r∧St 63 n c [(0,.float .f64 frac),(1,.int .i64 ex),(12,.bool o)] [] r f w) (λ_ A=>?_) ?_
 ·have H:=O;refine bO H λQ R H=>ZD (mv S rfl λf S=>opc S rfl (ZO S [.float .f64 frac,.int .i64 0] ZBo rfl rfl) (Z8n S.vin (show Rep.rel (ZH .f64) _ [.float .f64 frac] frac from (Zia d)) (show Rep.rel (Zd .i64) _ [.int .i64 0] (0:Int) from (ZJ (by decide))) R) ?_);rintro _ aN f w B ⟨aO,rfl,T⟩ S;obtain rfl:=T;refine mv S rfl λf S=>?_;rcases Zca (Q) with g | g
  ·have H:=Zba H g;have S:=S.bool (t:=15) rfl g;refine opn S rfl rfl rfl rfl λf S=>opn S rfl rfl rfl rfl λf S=>ov S rfl (Zyc S (b:=true) rfl rfl) λf S=>mw S rfl λf S=>Zz ?_;obtain rfl:=Zw H;refine Zi (A _ _ ⟨_,_,rfl,(leT (leR _) B),(S.fr' rfl)⟩)
  have H:=Zaa H g;have S:=S.bool (t:=15) rfl g;refine bO H λaP U H=>opy S rfl rfl rfl rfl (ZK S rfl) λf S=>Zjj S (ZYd S rfl rfl rfl zl) rfl zl (ZO S [.float .f64 frac] Znn rfl rfl) (Zcn S.vin (show Rep.rel (ZH .f64) _ [.float .f64 frac] frac from (Zia d)) U) ?_;rintro _ aQ f w V ⟨aR,rfl,W⟩ S;obtain rfl:=W;refine ov S rfl (Zyc S (b:=false) rfl rfl) λf S=>mw S rfl λf S=>Zz ?_;obtain rfl:=Zw H;refine Zi (A _ _ ⟨_,_,rfl,(leT (leT (leR _) B) V),(S.fr' rfl)⟩)
 rintro f w ⟨o,r,hq,aS,S⟩;subst hq;have H:=P;refine Zi (M _ _ ?_);rcases Zca (o) with h | h
 ·have H:=Zba H h;refine Zna S rfl h (sr (mv S rfl λf S=>mw S rfl λf S=>oe (wp_ret (Zoh (Z8b ?_)))));obtain rfl:=Zw H;refine Zva S (Z0a rfl (ZP S rfl)) ⟨[.float .f64 frac],rfl,(Zia d)⟩
 have H:=Zaa H h;refine Z4 S rfl h (wp_skip (Z5c (Zi (L _ _ (Zp λ_ X=>bO H λa Y H=>ZD (mv S rfl λf S=>opc S rfl (ZO S [.float .f64 frac] Z7p rfl rfl) (ZDr S.vin (show Rep.rel (ZH .f64) _ [.float .f64 frac] frac from (Zia d)) Y) ?_))))));rintro _ Z f w aT ⟨aU,aV,rfl,aa,ab⟩ S;obtain⟨rfl,ac⟩:=aa;obtain⟨rfl,aW⟩:=ab;refine mv S rfl λf S=>ov S rfl (Zja S rfl rfl) λf S=>ov S rfl (Zja S rfl rfl) λf S=>mw S rfl λf S=>mw S rfl λf S=>Zz (Zi (X _ _ (Zp λ_ ad=>bO H λaX ae H=>ZD (mv S rfl λf S=>mv S rfl λf S=>ov S rfl (Zu S rfl rfl (ZZc ae)) λf S=>mw S rfl λf S=>?_))));refine Zz (Zi (ad _ _ (sr (mv S rfl λf S=>ov S rfl (ZHc S [.float .f64 a.1] (Z8i ZEi) rfl rfl) λf S=>mw S rfl λf S=>oe (Zp λ_ af=>bO H λaY ag H=>bO H λaZ ah H=>bO H λi C H=>ZD (mv S rfl λf S=>mv S rfl λf S=>?_))))));refine ov S rfl (Zu S rfl rfl (Zbn ag)) λf S=>ov S rfl (ZOd S rfl (Zxv _)) λf S=>ov S rfl (Zu S rfl rfl Z5k) λf S=>ov S rfl (Zu S rfl rfl (ZDb ah)) λf S=>ov S rfl (Zu S rfl rfl (ZZc C)) λf S=>mw S rfl λf S=>Zz (Zi (af _ _ (Zp λ_ ai=>sr (mv S rfl λf S=>ov S rfl (Zu S rfl rfl Zhd) λf S=>oe ?_))))
 rcases Zca (decide (i<(-1075:Int))) with j | j
 ·have H:=Zba H j;refine Zna S rfl j (Zp λ_ aj=>bO H λD ak H=>ZD (mv S rfl λf S=>opc S rfl (ZO S [.float .f64 ((0:Nat)),.float .f64 a.1] k_en181 rfl rfl) (ZIB S.vin (show Rep.rel (ZH .f64) _ [.float .f64 ((0:Nat))] ((0:Nat)) from (Zia (by decide))) (show Rep.rel (ZH .f64) _ [.float .f64 a.1] a.1 from (Zia ac)) ak) ?_));rintro _ a0 f w a1 ⟨a2,rfl,al⟩ S;obtain⟨rfl,am⟩:=al;refine mw S rfl λf S=>Zz ?_;have S:=S.fr' (σ':=[(4,.float .f64 D)]) rfl;refine Zi (aj _ _ (wp_ret (Z8b ?_)));obtain rfl:=Zw H;refine Zva S (Z0a rfl (ZP S rfl)) ⟨[.float .f64 D],rfl,(Zia am)⟩
 have H:=Zaa H j;refine Z4 S rfl j (wp_skip (Zi (ai _ _ (Zp λ_ an=>sr (mv S rfl λf S=>ov S rfl (Zu S rfl rfl Zmf) λf S=>?_)))));have S:=S.fr' (σ':=[(0,.float .f64 a.1),(1,.int .i64 i),(6,.int .u64 ((a.1:Int))),(42,.bool (decide ((1023:Int)<i)))]) rfl;refine oe ?_;rcases Zca (decide ((1023:Int)<i)) with k | k
 ·have H:=Zba H k;refine Zna S rfl k (Zp λ_ ao=>sr (mv S rfl λf S=>ov S rfl (Zaw S rfl rfl) λf S=>oe ?_));rcases Zca (fLt .f64 a.1 ((0:Nat))) with l | l
  ·have H:=Zba H l;refine Zna S rfl l (Zp λ_ ap=>bO H λaq ar H=>ZD (opc S rfl (ZO S [.int .i64 (-1:Int)] ZHt rfl rfl) (Zau S.vin (show Rep.rel (Zd .i64) _ [.int .i64 (-1:Int)] (-1:Int) from (ZJ (by decide))) ar) ?_));rintro _ a3 f w a4 ⟨a5,rfl,au⟩ S;obtain⟨rfl,av⟩:=au;refine mw S rfl λf S=>Zz (Zi (ap _ _ (wp_ret (Z8b (Z8b ?_)))));obtain rfl:=Zw H;refine Zva S (Z0a rfl (ZP S rfl)) ⟨[.float .f64 aq],rfl,(Zia av)⟩
  have H:=Zaa H l;refine Z4 S rfl l (wp_skip (Zi (ao _ _ (Zp λ_ ax=>bO H λay az H=>ZD (opc S rfl (ZO S [.int .i64 1] ZHt rfl rfl) (Zau S.vin (show Rep.rel (Zd .i64) _ [.int .i64 1] (1:Int) from (ZJ (by decide))) az) ?_)))));rintro _ a6 f w a7 ⟨a8,rfl,aA⟩ S;obtain⟨rfl,aB⟩:=aA;refine mw S rfl λf S=>Zz (Zi (ax _ _ (wp_ret (Z8b ?_))));obtain rfl:=Zw H;refine Zva S (Z0a rfl (ZP S rfl)) ⟨[.float .f64 ay],rfl,(Zia aB)⟩
 have H:=Zaa H k;refine Z4 S rfl k (wp_skip (Zi (an _ _ (sr (mw S rfl λf S=>oe (Zp λ_ aC=>sr (mv S rfl λf S=>ov S rfl (Zu S rfl rfl Zhd) λf S=>oe ?_)))))));obtain⟨aD,aE,aF⟩:=Z8 H;refine ZJb (λf w=>∃ p q s,(p,q)=aD∧Zb.le Z s∧St 63 n c [(1,.int .i64 p),(6,.int .u64 ((a.1:Int))),(7,.float .f64 q)] [] s f w∧inR .i64 p∧q<18446744073709551616) (λ_ E=>?_) ?_
 ·have H:=aE;rcases Zca (decide (i<(-1022:Int))) with m | m
  ·have H:=Zba H m;refine Zna S rfl m (Zp λ_ aG=>bO H λa9 F H=>ZD (mv S rfl λf S=>ov S rfl (Zu S rfl rfl (ZZc F)) λf S=>mw S rfl λf S=>Zz (Zi (aG _ _ (ZD (mw S rfl λf S=>Zz ?_))))));obtain rfl:=Zw H;refine Zi (E _ _ ⟨_,_,_,rfl,(leR _),(S.fr' rfl),(Zob F).2,(by decide)⟩)
  have H:=Zaa H m;refine Z4 S rfl m (wp_skip ?_);obtain rfl:=Zw H;refine Zi (E _ _ ⟨_,_,_,rfl,(leR _),(S.fr' rfl),(Zob C).2,(by decide)⟩)
 rintro f w ⟨p,q,s,hq,ba,S,bb,bc⟩;subst hq;have H:=aF;refine Zi (aC _ _ (sr (mv S rfl λf S=>ov S rfl (Zu S rfl rfl Z5j) λf S=>mw S rfl λf S=>oe (Zp λ_ aH=>bO H λbd aI H=>bO H λaJ aK H=>ZD (mv S rfl λf S=>mv S rfl λf S=>ov S rfl (Zu S rfl rfl (ZZc aI)) λf S=>ov S rfl (ZOd S rfl (ZCy _)) λf S=>?_)))));refine ov S rfl (Zu S rfl rfl (ZNu aK)) λf S=>ov S rfl (Zu S rfl rfl Znl) λf S=>mw S rfl λf S=>Zz (Zi (aH _ _ (Zp λ_ aL=>bO H λaM G H=>ZD (mv S rfl λf S=>mv S rfl λf S=>ov S rfl (ZHc S [.int .u64 (orI .u64 (Zwc .u64 ((a.1:Int)) (9218868437227405312:Int)) aJ)] (ZUj ZXj) rfl rfl) λf S=>ov S rfl (Zjq S rfl rfl G) λf S=>mw S rfl λf S=>Zz ?_))));refine Zi (aL _ _ (wp_ret ?_));obtain rfl:=Zw H;refine Zva S (Z0a rfl (ZP S rfl)) ⟨[.float .f64 aM],rfl,(Zia (ZHe G).2)⟩
theorem Ldexp_w {b:World} {a:Zb} (hv:VIn a b) {c:List Value} {frac:Nat} (g:Rep.rel (ZH .f64) a c frac) {d:List Value} {ex:Int} (h:Rep.rel (Zd .i64) a d ex) {z:Nat} (H:ZGm frac ex=some z):Ret Tryz.prog 154 #[(ZH .f64).val c,(Zd .i64).val d] b a (λy v'=>∃ e,y=(ZH .f64).val e∧(ZH .f64).rel v' e z):=by
 obtain⟨rfl,i⟩:=g;obtain⟨rfl,j⟩:=h;refine Z1b (K:=11) (args:=[.float .f64 frac,.int .i64 ex]) hv Tryz.func154 rfl rfl zl λf S=>?_;unfold ZGm at H;refine sr (mw S rfl λf S=>oe (Zp λ_ k=>Z4 S rfl rfl (wp_skip (Zi (k _ _ (Zp λ_ l=>bO H λm n H=>ZD (mv S rfl λf S=>mv S rfl λf S=>opc S rfl (ZO S [.float .f64 frac,.int .i64 ex] k_en174 rfl rfl) (ldexp_w S.vin (show Rep.rel (ZH .f64) _ [.float .f64 frac] frac from (Zia i)) (show Rep.rel (Zd .i64) _ [.int .i64 ex] ex from (ZJ j)) n) ?_)))))));rintro _ q f w r ⟨s,rfl,o⟩ S;obtain⟨rfl,p⟩:=o;refine mw S rfl λf S=>Zz (Zi (l _ _ (wp_ret ?_)));obtain rfl:=Zw H;refine Zva S (Z0a rfl (ZP S rfl)) ⟨[.float .f64 m],rfl,(Zia p)⟩
theorem ZjB {u:World} {h:Zb} (hv:VIn h u) {D:List Value} {fv:Nat} (V:Rep.rel (ZH .f64) h D fv) {z:Rat×Int} (H:Z9e fv=some z):Ret Tryz.prog 128 #[(ZH .f64).val D] u h (λy v'=>∃ E c,y = .tuple #[ZW.val E,(Zd .i64).val c]∧ZW.rel v' E z.1∧(Zd .i64).rel v' c z.2):=by
 obtain⟨rfl,c⟩:=V;refine Z1b (K:=41) (args:=[.float .f64 fv]) hv Tryz.func128 rfl rfl zl λf S=>?_;unfold Z9e at H;refine sr (Zti S wn rfl zl (cs:=[.bool false,.slice none 0 0,.slice none 0 0]) (Zkh Zat) λn f w S=>mw S rfl λf S=>oe (Zp λ_ W=>Zp λ_ X=>?_));obtain⟨Y,Z,aa⟩:=Z8 H;refine ZJb (λf w=>∃ o v,o=Y∧Zb.le h v∧St 41 u h [(0,.float .f64 fv),(2,.pointer (some ⟨n,0,none⟩)),(12,.bool o)] [Loc.box n 38 [.bool false,.slice none 0 0,.slice none 0 0]] v f w) (λ_ G=>?_) ?_
 ·have H:=Z;refine bO H λab ac H=>ZD (mv S rfl λf S=>opc S rfl (ZO S [.float .f64 fv] Znn rfl rfl) (Zcn S.vin (show Rep.rel (ZH .f64) _ [.float .f64 fv] fv from (Zia c)) ac) ?_);rintro _ aU f w I ⟨aV,rfl,ad⟩ S;obtain rfl:=ad;refine mv S rfl λf S=>?_;rcases Zca (ab) with i | i
  ·have H:=Zba H i;have S:=S.bool (t:=9) rfl i;refine opn S rfl rfl rfl rfl λf S=>opn S rfl rfl rfl rfl λf S=>ov S rfl (Zyc S (b:=true) rfl rfl) λf S=>Zz ?_;obtain rfl:=Zw H;refine Zi (G _ _ ⟨_,_,rfl,(leT (leR _) I),(S.fr' rfl)⟩)
  have H:=Zaa H i;have S:=S.bool (t:=9) rfl i;refine bO H λaW ae H=>opy S rfl rfl rfl rfl (ZK S rfl) λf S=>Zjj S (ZYd S rfl rfl rfl zl) rfl zl (ZO S [.float .f64 fv,.int .i64 0] ZBo rfl rfl) (Z8n S.vin (show Rep.rel (ZH .f64) _ [.float .f64 fv] fv from (Zia c)) (show Rep.rel (Zd .i64) _ [.int .i64 0] (0:Int) from (ZJ (by decide))) ae) ?_;rintro _ aX f w af ⟨aY,rfl,ag⟩ S;obtain rfl:=ag;refine ov S rfl (Zyc S (b:=false) rfl rfl) λf S=>Zz ?_;obtain rfl:=Zw H;refine Zi (G _ _ ⟨_,_,rfl,(leT (leT (leR _) I) af),(S.fr' rfl)⟩)
 rintro f w ⟨o,v,hq,aZ,S⟩;subst hq;have H:=aa;refine Zi (X _ _ ?_);rcases Zca (o) with j | j
 ·have H:=Zba H j;refine Zna S rfl j (sr (ov S rfl (Zqm S [] rfl (z:=.agg #[.bool false,.slice none 0 0,.slice none 0 0]) (by kernel_rfl)) λf S=>?_));obtain⟨w,ah,S⟩:=sbp S [.bool false,.slice none 0 0,.slice none 0 0] ZCf 0 0 rfl;refine ZUg wn rfl (ah rfl rfl) (mw S rfl λf S=>oe (wp_ret (Z8b ?_)));obtain rfl:=Zw H;refine Zva S (ZFc rfl (rag3 S rfl ZCf 0 rfl rfl) (ZP S rfl)) ⟨[.bool false,.slice none 0 0,.slice none 0 0],[.int .i64 1],rfl,(ZXs _),(ZJ (by decide))⟩
 have H:=Zaa H j;refine Z4 S rfl j (wp_skip (Zi (W _ _ (Zp λ_ ai=>bO H λx aj H=>ZD (mv S rfl λf S=>opc S rfl (ZO S [.float .f64 fv] k_en153 rfl rfl) (Frexp_w S.vin (show Rep.rel (ZH .f64) _ [.float .f64 fv] fv from (Zia c)) aj) ?_)))));rintro _ a0 f w a1 ⟨a2,a3,rfl,ak,al⟩ S;obtain⟨rfl,am⟩:=ak;obtain⟨rfl,a4⟩:=al;refine mv S rfl λf S=>ov S rfl (Zja S rfl rfl) λf S=>ov S rfl (Zja S rfl rfl) λf S=>mw S rfl λf S=>mw S rfl λf S=>Zz (Zi (ai _ _ (Zp λ_ an=>bO H λa5 ao H=>bO H λA J H=>bO H λB ap H=>ZD (mv S rfl λf S=>opc S rfl (ZO S [.float .f64 x.1,.int .i64 53] k_en154 rfl rfl) (Ldexp_w S.vin (show Rep.rel (ZH .f64) _ [.float .f64 x.1] x.1 from (Zia am)) (show Rep.rel (Zd .i64) _ [.int .i64 53] (53:Int) from (ZJ (by decide))) ao) ?_))));rintro _ a6 f w a7 ⟨a8,rfl,aq⟩ S;obtain⟨rfl,a9⟩:=aq;refine ov S rfl (ZOd S rfl (conv_fI Tryz.underlying206 Tryz.underlying2 J)) λf S=>opc S rfl (ZO S [.int .i64 A] k_en57 rfl rfl) (of_c S.vin (show Rep.rel (Zd .i64) _ [.int .i64 A] A from (ZJ (ZRz J))) ap) ?_;rintro _ ba f w bb ⟨bc,rfl,k⟩ S;obtain⟨l,d,e,g,rfl⟩:=Zvh k;refine Zti S wn rfl zl (cs:=[.bool false,.slice none 0 0]) (Zkh k_zv36) λbd f w S=>?_
 obtain⟨w,ar,S⟩:=sbp S [.bool l,.slice d e g] ZIl 0 0 rfl;refine ZUg wn rfl (ar rfl rfl) (Zz (Zi (an _ _ (Zp λ_ au=>Zp λ_ av=>bO H λa L H=>ZD (mv S rfl λf S=>ov S rfl (Zu S rfl rfl (ZDb L)) λf S=>mw S rfl λf S=>Zz (Zi (av _ _ (sr (mv S rfl λf S=>?_)))))))));refine ov S rfl (Zu S rfl rfl Zmj) λf S=>oe ?_;rcases Zca (decide ((0:Int)≤a)) with m | m
 ·have H:=Zba H m;refine Zna S rfl m (Zp λ_ ax=>bO H λbe ay H=>bO H λbf az H=>Z6f (fl:=#[true,true,true,true,true,false,false,true,false,false]) ZHi (by kernel_rfl) S ?_);intro ops O F w S;refine rfa O F 0 rfl rfl S (Zck S rfl Z3s) λf S=>?_;obtain⟨rfl,aA⟩:=ZCs k;refine rfa O F 1 rfl rfl S (lo S rfl k_sz4 0 rfl rfl) λf S=>rfa O F 2 rfl rfl S (Zck S rfl Zoz) λf S=>rfa O F 3 rfl rfl S (lo S rfl k_sz34 0 rfl rfl) λf S=>rfa O F 4 rfl rfl S (ZK S rfl) λf S=>go1 O F 5 (nxc [3,4,2] [0,1] O rfl S rfl (ZO S [.slice d e g,.int .i64 a] ZVk rfl rfl) (Zbk S.vin aA (show Rep.rel (Zd .i64) _ [.int .i64 a] a from (ZJ (Zob L).2)) ay) ?_);rintro _ bg f w bh ⟨bi,rfl,M⟩ S;obtain⟨aB,aC,aD,rfl⟩:=ZNa M;refine⟨(py S rfl rfl (Zck S rfl Z3s) (py S rfl rfl (lo S rfl k_sz4 0 rfl rfl) Z8a)),go1 O F 6 (nxc [1,5,0,3,4,2] [] O rfl S rfl (ZO S [.bool (decide (B<0)),.slice aB aC aD] k_en87 rfl rfl) (whole_c S.vin (show Rep.rel Zzb _ [.bool (decide (B<0))] (decide (B<0)) from ZWj) M az) ?_)⟩;rintro _ bj f w bk ⟨bm,rfl,N⟩ S;obtain⟨p,q,r,s,rfl⟩:=Zvh N;refine⟨Z8a,rfa O F 7 rfl rfl S (Zqm S [(0,.agg #[.bool p,.slice q r s])] rfl (z:=.agg #[.bool p,.slice q r s,.slice none 0 0]) (by kernel_rfl)) λf S=>go1 O F 8 ?_⟩
  obtain⟨w,aE,S⟩:=sbp S [.bool p,.slice q r s,.slice none 0 0] ZCf 0 1 rfl;refine nxs [0,1,2,3,4,5,6,7] [] O rfl rfl (aE rfl rfl) (⟨Z8a,go1 O F 9 (nva [0,1,2,3,4,5,6,7,8] [] O rfl rfl S (Z2c S rfl) λf S=>⟨Z8a,fin1 O F ?_⟩)⟩);have S:=S.fr' (σ':=[(2,.pointer (some ⟨n,0,none⟩)),(3,.int .i64 0)]) rfl;refine Zi (ax _ _ (wp_ret (Z8b (bO H λbn aF H=>?_))));have aG:=Zpr N (ZGh _) aF;obtain rfl:=Zw H;refine Zva S (ZFc rfl (rag3 S rfl ZCf 1 rfl rfl) (ZP S rfl)) ⟨[.bool p,.slice q r s,.slice none 0 0],[.int .i64 0],rfl,aG,(ZJ (by decide))⟩
 have H:=Zaa H m;refine Z4 S rfl m (wp_skip (Zi (au _ _ (Zp λ_ aH=>bO H λbo aI H=>bO H λbp aJ H=>bO H λbq aK H=>Z6f (fl:=#[true,false,true,true,false,false,false,false]) ZHi (by kernel_rfl) S ?_))));intro ops O F w S;refine rfa O F 0 rfl rfl S (la S (cs:=[.bool l,.slice d e g]) rfl ZIl 0 rfl rfl rfl) λf S=>rfa O F 2 rfl rfl S (ZK S rfl) λf S=>rfa O F 3 rfl rfl S (Zjp S rfl) λf S=>go1 O F 1 (nxc [] [0,2,3] O rfl S rfl (ZO S [.int .u64 1] ZOq rfl rfl) (Zru S.vin (show Rep.rel (Zd .u64) _ [.int .u64 1] (1:Int) from (ZJ (by decide))) aI) ?_);rintro _ br f w aL ⟨bs,rfl,P⟩ S;obtain⟨aM,aN,aO,rfl⟩:=ZNa P;refine⟨(py S rfl rfl (la S (cs:=[.bool l,.slice d e g]) rfl ZIl 0 rfl rfl rfl) (py S rfl rfl (ZK S rfl) (py S rfl rfl (Zjp S rfl) Z8a))),go1 O F 4 (nxc [1,3,2] [0] O rfl S rfl (ZO S [.slice aM aN aO,.int .i64 (IntKind.i64.wrap (-a))] ZVk rfl rfl) (Zbk S.vin P (show Rep.rel (Zd .i64) _ [.int .i64 (IntKind.i64.wrap (-a))] (IntKind.i64.wrap (-a)) from (ZJ (ZHb _ _))) aJ) ?_)⟩;rintro _ bt f w aP ⟨bu,rfl,Q⟩ S;obtain⟨aQ,aR,aS,rfl⟩:=ZNa Q;refine⟨(py S rfl rfl (la S (cs:=[.bool l,.slice d e g]) rfl ZIl 0 rfl rfl rfl) Z8a),go1 O F 5 ?_⟩;have k:=ZRa (leT aL aP) k
 refine nxc [0,4,1,3,2] [] O rfl S rfl (ZO S [.agg #[.bool l,.slice d e g],.slice aQ aR aS] k_en50 rfl rfl) (over_c S.vin k Q aK) ?_;rintro _ bv f w bw ⟨bx,rfl,C⟩ S;obtain⟨R,T,U,rfl⟩:=len3 ZW C;refine⟨Z8a,go1 O F 6 ?_⟩;obtain⟨w,aT,S⟩:=sba S (cs:=[R,T,U]) ZCf 0 1 rfl (Rflat ZW C);refine nxs [0,1,2,3,4,5] [] O rfl rfl (aT rfl rfl) (⟨Z8a,go1 O F 7 (nva [0,1,2,3,4,5,6] [] O rfl rfl S (Z2c S rfl) λf S=>⟨Z8a,fin1 O F ?_⟩)⟩);have S:=S.fr' (σ':=[(2,.pointer (some ⟨n,0,none⟩)),(3,.int .i64 0)]) rfl;refine Zi (aH _ _ (wp_ret ?_));obtain rfl:=Zw H;refine Zva S (ZFc rfl (rag3 S rfl ZCf 1 rfl rfl) (ZP S rfl)) ⟨[R,T,U],[.int .i64 0],rfl,C,(ZJ (by decide))⟩
set_option maxRecDepth 1000000
set_option maxRecDepth 100000
theorem d_sw:FloatKind.f64.format.signWeight=9223372036854775808:=by decide
theorem d_bi:FloatKind.f64.format.binade=4503599627370496:=by decide
theorem d_in:FloatKind.f64.format.infRung=9218868437227405312:=by decide
theorem d_lp:FloatKind.f64.format.leastPlace = -1074:=by decide
section
variable {s:Bool} {E M:Nat}
end
section
variable {s:Bool} {E M:Nat} (h1:1≤E) (h2:E≤2046) (h3:M<4503599627370496)
include h1 h2 h3
end
section
variable {s:Bool} {M:Nat} (h3:M<4503599627370496)
include h3
end
section
variable {s:Bool} {E M:Nat} (h1:1≤E) (h2:E≤2046) (h3:M<4503599627370496)
include h1 h2 h3
end
section
variable {m L:Nat} (h0:m≠0) (hL:m.log2=L) (h23:L≤23)
include h0 hL h23
end
theorem Z4z {r:Nat} (h:Zcg r):∃ g f,FloatKind.f64.format.read r = .nan g f:=by
 obtain⟨_,h2⟩:=h;unfold Ieee.Format.read;simp only[d_sw,d_bi,d_in,d_lp];rw[iN (by omega),iN (by omega),iN (by omega)];exact⟨_,_,rfl⟩
theorem ZGn {r:Nat} (h:Zcg r):Z9e r=some (0,1):=by
 obtain⟨g,f,hr⟩:=Z4z h;have hn:ZDf r=some true:=by
  unfold ZDf fNe Ieee.Format.order;rw[hr];rfl
 unfold Z9e;rw[hn,Za,Zf,Za,Zf]
theorem Znx (g:Bool):Z9e (FloatKind.f64.encode (.infinity g))=some (0,1):=by
 have h1:∀ g,ZDf (FloatKind.f64.encode (.infinity g))=some false∧ZVh (FloatKind.f64.encode (.infinity g)) 0=some true:=by
  intro g
  cases g
  ·decide +kernel
  ·decide +kernel
 obtain⟨a,b⟩:=h1 g;unfold Z9e;rw[a,Za,Ze,b,Za,Za,Zf]
theorem Zyu:Zcg canon64:=⟨by decide,by decide⟩
theorem ZsC {y r:Nat} {z:Rat×Int} (h:as64 y r) (e:Z9e y=some z):Z9e r=some z:=by
 rcases h with rfl | ⟨rfl,h | ⟨g,rfl⟩⟩
 ·exact e
 ·rw[ZGn h,← e,ZGn Zyu]
 ·rw[Znx,← e,ZGn Zyu]
end Go.Eng
namespace Go.Eng
open Go.Proofs Go.RowKit
theorem ZxC {d:World} {a:Zb} (hv:VIn a d) {e:List Value} {fv:Nat} (k:Rep.rel (ZH .f32) a e fv) {z:Rat×Int} (H:ZOi fv=some z):Ret Tryz.prog 94 #[(ZH .f32).val e] d a (λy v'=>∃ g b,y = .tuple #[ZW.val g,(Zd .i64).val b]∧ZW.rel v' g z.1∧(Zd .i64).rel v' b z.2):=by
 obtain⟨rfl,b⟩:=k;refine Z1b (K:=9) (args:=[.float .f32 fv]) hv Tryz.func94 rfl rfl zl λf S=>?_;unfold ZOi at H;refine sr (Zti S wn rfl zl (cs:=[.bool false,.slice none 0 0,.slice none 0 0]) (Zkh Zat) λs f w S=>mw S rfl λf S=>oe (Zp λ_ l=>bO H λt m H=>bO H λn o H=>ZD (mv S rfl λf S=>ovn S rfl Tryz.underlying81 Tryz.underlying206 m λyr asr ltr f w S=>opc S rfl (ZO S [.float .f64 yr] k_en128 rfl rfl) (ZjB S.vin (show Rep.rel (ZH .f64) _ [.float .f64 yr] yr from (Zia ltr)) (ZsC asr o)) ?_)));rintro _ u f w v ⟨x,A,rfl,c,p⟩ S;obtain⟨h,i,j,rfl⟩:=len3 ZW c;obtain⟨rfl,q⟩:=p;refine ov S rfl (Zja S rfl rfl) λf S=>ov S rfl (Zja S rfl rfl) λf S=>?_;obtain⟨w,r,S⟩:=sba S (cs:=[h,i,j]) ZCf 0 0 rfl (Rflat ZW c);refine ZUg wn rfl (r rfl rfl) (mw S rfl λf S=>Zz (Zi (l _ _ (wp_ret ?_))));obtain rfl:=Zw H;refine Zva S (ZFc rfl (rag3 S rfl ZCf 0 rfl rfl) (ZP S rfl)) ⟨[h,i,j],[.int .i64 (n.2)],rfl,c,(ZJ q)⟩
noncomputable def ZWp:FuncId×Con:=(94,⟨[.flt .f32],[.leaf 3,.int .i64],λp=>ZOi p⟩)
theorem ZBC:Zpe Tryz.prog ZWp.1 ZWp.2:=λw v vals x z hv ha hz=>by
 obtain⟨c0,e0,p0⟩:=ha;subst e0
 exact .inl ⟨λ_ _=>by kernel_rfl,Ret.mono (ZxC hv p0 hz) λy v' _ ⟨r0,r1,e,h0,h1⟩=>⟨_,e,r0,_,rfl,h0,r1,rfl,h1⟩⟩
noncomputable def Zcs:FuncId×Con:=(59,⟨[.slice (.pair (.flt .f32) (.flt .f32))],[.slice (.pair (.leaf 3) (.leaf 3)),.int .i64],λp=>Z7s p⟩)
theorem rise_k:KQ Zcs:=Zl (ZM (C:=cf0 [ZOe,ZUc,ZWp] [] [] []) (.n (.two (.f (.j [0] [] [.s 19 (.dat .bool)] .no)) (.n (.n (.f (.n (.cut ⟨⟨[],[],[]⟩,[(.norm,⟨[],[],[.s 4 (.own 166 (.pair (.leaf 3) (.leaf 3))),.s 5 (.dat (.int .i64))]⟩),(.ret,⟨[],[],[.s 1000 (.dat (.slice (.pair (.leaf 3) (.leaf 3)))),.s 1001 (.dat (.int .i64))]⟩)]⟩ (.f (.cut ⟨⟨[20,21],[],[.s 4 (.own 166 (.pair (.leaf 3) (.leaf 3))),.s 22 (.dat (.int .i64)),.s 5 (.dat (.int .i64))]⟩,[(.ret,⟨[],[],[.s 1000 (.dat (.slice (.pair (.leaf 3) (.leaf 3)))),.s 1001 (.dat (.int .i64))]⟩),(.exit 0,⟨[],[],[.s 4 (.own 166 (.pair (.leaf 3) (.leaf 3))),.s 5 (.dat (.int .i64))]⟩)]⟩ (.f (.n (.n (.f (.f (.n (.n (.n (.two (.f (.two (.j [4,5,6,8,10,20,21,22] [] [.s 39 (.dat .bool)] .no) (.n (.f (.j [4,5,6,8,10,20,21,22] [] [.s 51 (.dat .bool)] .no))))) (.n (.n (.j [4,20,21,22] [] [.s 5 (.dat (.int .i64))] .no))))))))))))))))))))) Tryz.func59 [] (λ_=>by kernel_rfl) ⟨ZQf,Zed,ZBC,tr⟩)
noncomputable def ZBv:FuncId×Con:=(97,⟨[.pair (.leaf 3) (.leaf 3),.pair (.leaf 3) (.leaf 3)],[.leaf 3],λp=>Zgr p.1 p.2⟩)
theorem ZZA:KQ ZBv:=Zl (ZM (C:=cf0 [ZKf,ZFg] [] [] []) (.n (.f (.j [4] [] [.s 5 (.box 38 (.dat (.leaf 3)))] .no))) Tryz.func97 [] (λ_=>by kernel_rfl) ⟨Zsg,Zlh,tr⟩)
noncomputable def Zwq:FuncId×Con:=(60,⟨[.slice (.pair (.leaf 3) (.leaf 3)),.leaf 3],[.leaf 3,.int .i64],λp=>ZAs p.1 p.2⟩)
theorem reach_k:KQ Zwq:=Zl (ZM (C:=cf0 [ZSg,ZKf,ZFg,ZBv,ZOe] [] [] []) (.n (.n (.n (.n (.f (.j [4,7] [] [.s 8 (.box 38 (.dat (.leaf 3)))] .no)))))) Tryz.func60 [(95,Tryz.f95,.r [] [] [.s 1000 (.dat (.int .i64))] (.n (.f (.n (.cut ⟨⟨[],[],[]⟩,[(.norm,⟨[],[],[]⟩),(.ret,⟨[],[],[.s 1000 (.dat (.int .i64))]⟩)]⟩ (.f (.cut ⟨⟨[0,1,7],[],[.s 8 (.dat (.int .i64))]⟩,[(.ret,⟨[],[],[.s 1000 (.dat (.int .i64))]⟩),(.exit 0,⟨[],[],[]⟩)]⟩ .no))))))),(96,Tryz.f96,.r [] [] [.s 1000 (.dat .bool)] .no)] (λ_=>by kernel_rfl) ⟨Zrh,Zsg,Zlh,ZZA,ZQf,tr⟩ tr tr ⟨⟨Tryz.func95,λ_ _=>by kernel_rfl⟩,⟨Tryz.func96,λ_ _=>by kernel_rfl⟩,tr⟩)
noncomputable def Zzu:FuncId×Con:=(25,⟨[.slice (.pair (.flt .f32) (.flt .f32)),.leaf 3],[.leaf 3,.int .i64],λp=>Zvt p.1 p.2⟩)
theorem Reach_k:KQ Zzu:=Zl (ZM (C:=cf0 [Zcs,Zwq] [] [] []) .no Tryz.func25 [] (λ_=>by kernel_rfl) ⟨rise_k,reach_k,tr⟩)
theorem ZLy {r:World} {d:Zb} (hv:VIn d r) {D:List Value} {n:Int} (L:Rep.rel (Zd .u64) d D n) {z:(List UInt8)} (H:ZTk n=some z):Ret Tryz.prog 99 #[(Zd .u64).val D] r d (λy v'=>∃ E,y=ZAb.val E∧ZAb.rel v' E z):=by
 obtain⟨rfl,M⟩:=L;refine Z1b (K:=20) (args:=[.int .u64 n]) hv Tryz.func99 rfl rfl zl λf S=>?_;unfold ZTk at H;refine sr (mw S rfl λf S=>oe (sr (Zti S wn rfl zl (cs:=[.int .u8 0,.int .u8 0,.int .u8 0,.int .u8 0,.int .u8 0,.int .u8 0,.int .u8 0,.int .u8 0,.int .u8 0,.int .u8 0,.int .u8 0,.int .u8 0,.int .u8 0,.int .u8 0,.int .u8 0,.int .u8 0,.int .u8 0,.int .u8 0,.int .u8 0,.int .u8 0]) (Zkh k_zv207) λs f w S=>?_)));have S:=S.boxOwn 1 20 rfl zl;have N:Rep.rels (Zd .u8) d [.int .u8 0,.int .u8 0,.int .u8 0,.int .u8 0,.int .u8 0,.int .u8 0,.int .u8 0,.int .u8 0,.int .u8 0,.int .u8 0,.int .u8 0,.int .u8 0,.int .u8 0,.int .u8 0,.int .u8 0,.int .u8 0,.int .u8 0,.int .u8 0,.int .u8 0,.int .u8 0] (List.replicate 20 (0:Int)):=Zbh (show Rep.rel (Zd .u8) _ [Value.int .u8 0] 0 from ⟨rfl,by decide⟩) 20;refine oe (sr (mw S rfl λf S=>oe (Zp λ_ O=>?_)));obtain⟨P,Q,R⟩:=Z8 H;refine ZJb (λf w=>∃ l m B t,(l,m)=P∧Zb.le d t∧St 20 r d [(3,.pointer (some ⟨s,0,none⟩)),(4,.int .i64 m)] [Loc.own (some s) 207 1 20 20 B] t f w∧Rep.rels (Zd .u8) t B l∧20=l.length∧inR .i64 m) (λ_ T=>?_) ?_
 ·have H:=Q;refine wp_block ?_;obtain⟨ak,U,V⟩:=Z8 H;refine Zef U (λW f w=>∃ h o u b k,(h,o,u)=W∧Zb.le d k∧St 20 r d [(0,.int .u64 o),(3,.pointer (some ⟨s,0,none⟩)),(4,.int .i64 u)] [Loc.own (some s) 207 1 20 20 b] k f w∧Rep.rels (Zd .u8) k b h∧20=h.length∧inR .u64 o∧inR .i64 u) ⟨_,_,_,[.int .u8 0,.int .u8 0,.int .u8 0,.int .u8 0,.int .u8 0,.int .u8 0,.int .u8 0,.int .u8 0,.int .u8 0,.int .u8 0,.int .u8 0,.int .u8 0,.int .u8 0,.int .u8 0,.int .u8 0,.int .u8 0,.int .u8 0,.int .u8 0,.int .u8 0,.int .u8 0],_,rfl,(leR _),(S.fr' rfl),N,(List.length_replicate (n:=20) (a:=(0:Int))).symm,M,(by decide)⟩ ?_;rintro _ f w st ⟨h,o,u,b,k,hq,F,S,C,v,al,X⟩ H am Y Z;subst hq;refine Zp λ_ aa=>sr (mv S rfl λf S=>ov S rfl (Zu S rfl rfl Zmf) λf S=>oe ?_);rcases Zca (decide ((0:Int)<o)) with p | p
  ·have H:=Zba H p;refine Zna S rfl p (wp_skip (Zi (aa _ _ (Zp λ_ ab=>wp_block (Zp λ_ ac=>bO H λe G H=>ZD (mv S rfl λf S=>ov S rfl (Zu S rfl rfl (ZDb G)) λf S=>mw S rfl λf S=>Zz (Zi (ac _ _ (bO H λg ad H=>?_)))))))));refine bO H λan q H=>ZD (mv S rfl λf S=>mv S rfl λf S=>ov S rfl (Zu S rfl rfl (Zcw ad)) λf S=>ov S rfl (Zu S rfl rfl ZTo) λf S=>ov S rfl (ZOd S rfl (ZQA _)) λf S=>?_);have I:=Z4a C (Zs q).2.1;obtain⟨ao,ae⟩:∃ c,(List.take (Zd .u8).n (List.drop ((e).toNat*(Zd .u8).n) b))=c:=⟨_,rfl⟩;rw[ae]at I;obtain⟨rfl,ap⟩:=I;refine ov S rfl (Ztv S Zyr rfl rfl (Zs q).1 (ltI v (Zs q).2.2.1)) λf S=>?_;obtain⟨w,af,S⟩:=ZWd S k_sz5 (off:=0+(e).toNat*1) (z:=.int .u8 (IntKind.u8.wrap (IntKind.u64.wrap ((48:Int)+g)))) (cs:=[.int .u8 (IntKind.u8.wrap (IntKind.u64.wrap ((48:Int)+g)))]) (Zwd rfl) rfl (i:=0) rfl (ZPj S (j:=0) rfl (ltN v (Zs q).2.2.2)) (by first | rfl | simp[plain]);have ag:Rep.rels (Zd .u8) k (List.take (0+(e).toNat*1) b++[Value.int IntKind.u8 (IntKind.u8.wrap (IntKind.u64.wrap ((48:Int)+g)))]++List.drop (0+(e).toNat*1+1) b) (h.set (e).toNat (IntKind.u8.wrap (IntKind.u64.wrap ((48:Int)+g)))):=ZIh C (Zs q).2.2.2 (show Rep.rel (Zd .u8) k [.int .u8 (IntKind.u8.wrap (IntKind.u64.wrap ((48:Int)+g)))] _ from (ZJ (ZHb _ _))) rfl rfl
   have ah:20=(h.set (e).toNat (IntKind.u8.wrap (IntKind.u64.wrap ((48:Int)+g)))).length:=setN v;refine ZUg wn rfl (af rfl rfl) (Zz (Z5c (Zi (ab _ _ (bO H λaq J H=>ZD (mv S rfl λf S=>ov S rfl (Zu S rfl rfl (Zpv J)) λf S=>mw S rfl λf S=>Zz ?_))))));obtain rfl:=Zw H;refine Y _ rfl _ _ ⟨_,_,_,(List.take (0+(e).toNat*1) b++[Value.int IntKind.u8 (IntKind.u8.wrap (IntKind.u64.wrap ((48:Int)+g)))]++List.drop (0+(e).toNat*1+1) b),_,rfl,F,(S.fr' rfl),ag,ah,(Zbw J),(Zob G).2⟩
  have H:=Zaa H p;refine Z4 S rfl p (wp_exit (Zqb ?_));obtain rfl:=Zw H;have hq:=Z _ rfl;subst hq;have H:=V;refine Zqb (ZVd ?_);obtain rfl:=Zw H;refine Zi (T _ _ ⟨_,_,b,_,rfl,(leT (leR _) F),(S.fr' rfl),C,v,X⟩)
 rintro f w ⟨l,m,B,t,hq,ar,S,ai,x,au⟩;subst hq;have H:=R;refine Zi (O _ _ (Zp λ_ aj=>bO H λav A H=>ZD (mv S rfl λf S=>ov S rfl (ZIz S Zyr rfl rfl (Zzg A).1 (by have:=(Zzg A).2.1;have:=x;omega)) λf S=>ov S rfl (ZQz S (j:=0) rfl ai x (by have:=(Zzg A).2.1;have:=(Zzg A).1;have:=x;omega) rfl Tryz.underlying176 Tryz.underlying5 Tryz.underlying9) λf S=>mw S rfl λf S=>Zz (Zi (aj _ _ (wp_ret ?_))))));obtain rfl:=Zw H;refine Zva S (Z0a rfl (ZP S rfl)) ⟨[.string (Zy ((Zee (l.drop ((m).toNat)))))],rfl,(Z1i (by have:=x;simp only[ZNx,List.length_drop];unfold maxLen;omega))⟩
theorem Zzw {b:World} {a:Zb} (hv:VIn a b) {c:List Value} {n:Int} (d:Rep.rel (Zd .u64) a c n) {z:(List UInt8)} (hm:Zhi n=some z) :
  Ret Tryz.prog 99 #[(Zd .u64).val c] b a (λy v'=>∃ e,y=ZAb.val e∧ZAb.rel v' e z) :=
 ZLy hv d (ZRA d.2 hm)
end Go.Eng
namespace Go.Proofs
open Go.Shelf
def Tryz.lays105_ren:Go.Shelf.Ren:=⟨fun | 105=>100 | 212=>130 | 99=>131 | 165=>132 | 166=>101 | 170=>133 | 169=>102 | 263=>155 | 264=>89 | 206=>156 | 240=>134 | 241=>157 | 276=>158 | 277=>175 | n=>n,fun | 9=>9 | 3=>3 | 4=>4 | 20=>20 | 0=>0 | 46=>197 | 109=>208 | 5=>5 | 72=>178 | 76=>181 | 51=>183 | 146=>234 | 53=>143 | 148=>158 | 70=>175 | 37=>176 | 75=>180 | 127=>212 | 164=>236 | 80=>85 | n=>n,fun | n=>n⟩
theorem Tryz.lays105:Go.Proofs.Lays.n105 Tryz.prog Tryz.lays105_ren:={
 mixed:=by kernel_rfl
 f99:=Tryz.func131.trans (congrArg some (by kernel_rfl))
 f105:=Tryz.func100.trans (congrArg some (by kernel_rfl))
 f165:=Tryz.func132.trans (congrArg some (by kernel_rfl))
 f166:=Tryz.func101.trans (congrArg some (by kernel_rfl))
 f169:=Tryz.func102.trans (congrArg some (by kernel_rfl))
 f170:=Tryz.func133.trans (congrArg some (by kernel_rfl))
 f206:=Tryz.func156.trans (congrArg some (by kernel_rfl))
 f212:=Tryz.func130.trans (congrArg some (by kernel_rfl))
 f240:=Tryz.func134.trans (congrArg some (by kernel_rfl))
 f241:=Tryz.func157.trans (congrArg some (by kernel_rfl))
 f263:=Tryz.func155.trans (congrArg some (by kernel_rfl))
 f264:=Tryz.func89.trans (congrArg some (by kernel_rfl))
 f276:=Tryz.func158.trans (congrArg some (by kernel_rfl))
 f277:=Tryz.func175.trans (congrArg some (by kernel_rfl))
 t0:=Tryz.underlying0
 a0:=Tryz.isAgg0
 z0:=Tryz.sizeOf0
 v0:=Tryz.zeroValue0
 t3:=Tryz.underlying3
 a3:=Tryz.isAgg3
 z3:=Tryz.sizeOf3
 v3:=Tryz.zeroValue3
 t4:=Tryz.underlying4
 a4:=Tryz.isAgg4
 z4:=Tryz.sizeOf4
 v4:=Tryz.zeroValue4
 t5:=Tryz.underlying5
 a5:=Tryz.isAgg5
 z5:=Tryz.sizeOf5
 v5:=Tryz.zeroValue5
 t9:=Tryz.underlying9
 a9:=Tryz.isAgg9
 z9:=Tryz.sizeOf9
 v9:=Tryz.zeroValue9
 t20:=Tryz.underlying20
 a20:=Tryz.isAgg20
 z20:=Tryz.sizeOf20
 v20:=Tryz.zeroValue20
 t37:=Tryz.underlying176
 a37:=Tryz.isAgg176
 z37:=Tryz.sizeOf176
 v37:=Tryz.zeroValue176
 t46:=Tryz.underlying197
 a46:=Tryz.isAgg197
 z46:=Tryz.sizeOf197
 v46:=Tryz.zeroValue197
 t51:=Tryz.underlying183
 a51:=Tryz.isAgg183
 z51:=Tryz.sizeOf183
 v51:=Tryz.zeroValue183
 t53:=Tryz.underlying143
 a53:=Tryz.isAgg143
 z53:=Tryz.sizeOf143
 v53:=Tryz.zeroValue143
 t70:=Tryz.underlying175
 a70:=Tryz.isAgg175
 z70:=Tryz.sizeOf175
 v70:=Tryz.zeroValue175
 t72:=Tryz.underlying178
 a72:=Tryz.isAgg178
 z72:=Tryz.sizeOf178
 v72:=Tryz.zeroValue178
 t75:=Tryz.underlying180
 a75:=Tryz.isAgg180
 z75:=Tryz.sizeOf180
 v75:=Tryz.zeroValue180
 t76:=Tryz.underlying181
 a76:=Tryz.isAgg181
 z76:=Tryz.sizeOf181
 v76:=Tryz.zeroValue181
 t109:=Tryz.underlying208
 a109:=Tryz.isAgg208
 z109:=Tryz.sizeOf208
 v109:=Tryz.zeroValue208
 t127:=Tryz.underlying212
 a127:=Tryz.isAgg212
 z127:=Tryz.sizeOf212
 v127:=Tryz.zeroValue212
 t146:=Tryz.underlying234
 a146:=Tryz.isAgg234
 z146:=Tryz.sizeOf234
 v146:=Tryz.zeroValue234
 t148:=Tryz.underlying158
 a148:=Tryz.isAgg158
 z148:=Tryz.sizeOf158
 v148:=Tryz.zeroValue158
 t164:=Tryz.underlying236
 a164:=Tryz.isAgg236
 z164:=Tryz.sizeOf236
 v164:=Tryz.zeroValue236 }
theorem Tryz.Builder_Extra_105:Builder.Extra Tryz.prog Tryz.lays105_ren:={
 sizeBuilder:=by kernel_rfl
 liesBuilder:=by kernel_rfl
 t5:=Tryz.underlying5
 a5:=Tryz.isAgg5
 z5:=Tryz.sizeOf5
 v5:=Tryz.zeroValue5
 infoByte:=by kernel_rfl
 cellsByte:=by kernel_rfl
 sizeByte:=by kernel_rfl
 neB5:=by decide }
end Go.Proofs
namespace Go.Eng
open Go.Proofs Go.RowKit Go.Shelf
theorem writes:ZAq Tryz.prog 101 178 5:=λB b bs s w h hl hB=>Any.Builder_WriteString { Tryz.lays105 with } Tryz.Builder_Extra_105 B b bs s w h hl hB
theorem tells:Tells Tryz.prog 102 178 5:=λB b l w h hB=>Any.Builder_String_any { Tryz.lays105 with } Tryz.Builder_Extra_105 B b l w h hB
end Go.Eng
namespace Go.Eng
open Go.Proofs Go.RowKit
theorem ZfC (l:List UInt8) (c:Nat):Lib.repeatL l c=(List.replicate c l).flatten:=by
 induction c with
 | zero=>rfl
 | succ c ih=>simp[Lib.repeatL,List.replicate_succ,ih]
theorem ZTB {b:World} {a:Zb} (hv:VIn a b) {f:List Value} {s:List UInt8} (k:Rep.rel ZAb a f s) {g:List Value} {c:Int} (l:Rep.rel (Zd .i64) a g c) {z:List UInt8} (hm:Zzh s c=some z) :
  Ret Tryz.prog 100 #[ZAb.val f,(Zd .i64).val g] b a (λy v'=>∃ h,y=ZAb.val h∧ZAb.rel v' h z):=by
 obtain⟨rfl,hs⟩:=k;obtain⟨rfl,hc⟩:=l;unfold Zzh at hm;split at hm
 ·rename_i hh
  cases hm
  obtain⟨C,rfl⟩:=oZ hh.1;have hc:=Zjb.1 hc;have d:=hh.2;rw[tN]at d;have:=Any.strings_Repeat Tryz.lays105 Tryz.Builder_Extra_105 (Zy s) C b (by omega) (by rw[ZGd];exact d);refine Calls.mono this λe w' ⟨i,j⟩=>?_;have m:(⟨(Lib.repeatL (Zy s).data.toList C).toArray⟩:ByteArray)=Zy (List.replicate C s).flatten:=by
   rw[ZfC];rfl
  rw[m]at i;exact⟨_,a,i,j,VStep.ext hv j,[.string (Zy (List.replicate C s).flatten)],rfl,rfl,by simp only[tN];rw[List.length_flatten];simp;unfold maxLen;rw[Nat.mul_comm]at d;omega⟩
 ·cases hm
theorem text_w {e:World} {c:Zb} (hv:VIn c e) {c0:List Value} {a:Nat} (p0:Rep.rel Zx c c0 a) {z:(List UInt8)} (H:ZIj a=some z):Ret Tryz.prog 61 #[Zx.val c0] e c (λy v'=>∃ r0,y=ZAb.val r0∧ZAb.rel v' r0 z):=by
 obtain⟨q1,n2,k3,rfl⟩:=ZNa p0;refine Z1b (K:=49) (args:=[.slice q1 n2 k3]) hv Tryz.func61 rfl rfl zl λf S=>?_;unfold ZIj at H;refine sr (mw S rfl λf S=>oe (sr ?_));have S:=S.nilLoc 9 1;refine ov S rfl (Z2c S (y:=.slice (mkA none) 0 0) rfl) λf S=>oe (Zp λ_ ar=>?_);obtain⟨au,av,ax⟩:=Z8 H;refine ZJb (λf w=>∃ o F s G U I,o=au∧Zb.le c I∧St 49 e c [(3,.slice (mkA F) s G)] [Loc.own F 9 1 s G U] I f w∧Rep.rels ZAb I U o∧s=o.length) (λ_ ay=>?_) ?_
 ·have H:=av;refine wp_block ?_;obtain⟨bt,az,aA⟩:=Z8 H;refine Zef az (λaB f w=>∃ J g L M N p h q k t,(J,g)=aB∧Zb.le c t∧St 49 e c [(0,.slice L M N),(3,.slice (mkA p) h q)] [Loc.own p 9 1 h q k] t f w∧Rep.rel Zx t [.slice L M N] J∧Rep.rels ZAb t k g∧h=g.length) ⟨_,_,_,_,_,none,0,0,[],_,rfl,(leR _),(S.fr' rfl),p0,Zqf,rfl⟩ ?_;rintro _ f w st ⟨J,g,L,M,N,p,h,q,k,t,hq,ac,S,ad,d,ae⟩ H bu aC aD;subst hq;refine Zp λ_ aE=>sr (mv S rfl λf S=>ov S rfl (ZDc S (Zxb ad) rfl rfl Zta) λf S=>ov S rfl (Zu S rfl rfl Zmf) λf S=>oe ?_);rcases Zca (decide ((0:Int)<(((Zc 18446744073709551616 J)).length:Int))) with u | u
  ·have H:=Zba H u;refine Zna S rfl u (wp_skip (Zi (aE _ _ (wp_block (Zp λ_ aF=>bO H λO aG H=>ZD (mv S rfl λf S=>opc S rfl (ZO S [.slice L M N,.int .u64 10000000000000000000] Z7q rfl rfl) (ZRq S.vin ad (show Rep.rel (Zd .u64) _ [.int .u64 10000000000000000000] (10000000000000000000:Int) from (ZJ (by decide))) aG) ?_))))));rintro _ bv f w af ⟨bw,bx,rfl,m,aH⟩ S;have d:=Z0 af d;obtain⟨aI,aJ,aK,rfl⟩:=ZNa m;obtain⟨rfl,aL⟩:=aH;refine mv S rfl λf S=>ov S rfl (Zja S rfl rfl) λf S=>ov S rfl (Zja S rfl rfl) λf S=>mw S rfl λf S=>mw S rfl λf S=>Zz (Zi (aF _ _ (Zp λ_ aM=>bO H λbz aN H=>ZD (mv S rfl λf S=>opc S rfl (ZO S [.int .u64 (O.2)] k_en99 rfl rfl) (Zzw S.vin (show Rep.rel (Zd .u64) _ [.int .u64 (O.2)] O.2 from (ZJ aL)) aN) ?_))));rintro _ aO f w V ⟨bA,rfl,aP⟩ S;have d:=Z0 V d;obtain⟨rfl,aQ⟩:=aP;refine mw S rfl λf S=>Zz (Zi (aM _ _ (Zp λ_ aR=>sr (mv S rfl λf S=>?_))));have m:=ZRa V m;refine ov S rfl (ZDc S (Zxb m) rfl rfl Zta) λf S=>ov S rfl (Zu S rfl rfl Zmf) λf S=>oe ?_;obtain⟨aS,aT,aU⟩:=Z8 H;refine ZJb (λf w=>∃ b P,b=aS∧Zb.le aO P∧St 49 e c [(3,.slice (mkA p) h q),(4,.slice aI aJ aK),(6,.string (Zy b))] [Loc.own p 9 1 h q k] P f w∧b.length≤maxLen) (λ_ ag=>?_) ?_
   ·have H:=aT;rcases Zca (decide ((0:Int)<(((Zc 18446744073709551616 O.1)).length:Int))) with v | v
    ·have H:=Zba H v;refine Zna S rfl v (bO H λW ah H=>bO H λbB aV H=>bO H λbC ai H=>ZD (mv S rfl λf S=>ov S rfl (ZKr S rfl rfl Tryz.underlying9) λf S=>ov S rfl (Zu S rfl rfl (ZDb ah)) λf S=>opc S rfl (ZO S [.string (Zy (([48]:List UInt8))),.int .i64 W] k_en100 rfl rfl) (ZTB S.vin (show Rep.rel ZAb _ [.string (Zy (([48]:List UInt8)))] (([48]:List UInt8)) from (Z1i zl)) (show Rep.rel (Zd .i64) _ [.int .i64 W] W from (ZJ (Zob ah).2)) aV) ?_));rintro _ bD f w aj ⟨bE,rfl,aW⟩ S;have d:=Z0 aj d;obtain⟨rfl,bG⟩:=aW;refine mv S rfl λf S=>ov S rfl (ZDk S rfl rfl (Z0t ai)) λf S=>mw S rfl λf S=>Zz ?_;obtain rfl:=Zw H;refine Zi (ag _ _ ⟨_,_,rfl,(leT (leR _) aj),(S.fr' rfl),(Zpl ai)⟩)
    have H:=Zaa H v;refine Z4 S rfl v (wp_skip ?_);obtain rfl:=Zw H;refine Zi (ag _ _ ⟨_,_,rfl,(leR _),(S.fr' rfl),aQ⟩)
   rintro f w ⟨b,P,hq,X,S,aX⟩;subst hq;have H:=aU;have d:=Z0 X d;refine Zi (aR _ _ (bO H λbH aY H=>ZD (mv S rfl λf S=>mv S rfl λf S=>?_)));obtain⟨bI,w,aZ,S⟩:=Zgh S (n:=1) (cs:=[.string (Zy b)]) (vals:=[(0,.string (Zy b))]) (sz:=1) rfl (by decide) (ZXv Zpt (x:=.string (Zy b)) (cs:=[.string (Zy b)]) rfl rfl (by decide));have Y:Rep.rels ZAb P [.string (Zy b)] [b]:=(ZHs (Z1i aX) Zqf);refine Zsd wn rfl zl (aZ rfl) S λf S=>?_;have a0:=S;obtain⟨ak,al,w,a1,S⟩:=Zgk (ty:=170) Zpt S (i:=1) (n':=(g++[b]).length) rfl (Z8e Y rfl) (Zki S (j:=0) rfl) (Z5h Y) (appN ae rfl) (ZSe aY) (by decide);have a2:=ZIc d Y;refine Zsd wn rfl zl (ZEe a0 rfl rfl a1) S λf S=>mv S rfl λf S=>mw S rfl λf S=>mw S rfl λf S=>Zz (Z5c ?_);obtain rfl:=Zw H;have S:=S.reorder (ℓ':=[Loc.own ak 9 1 ((g++[b]).length) al ((k++[.string (Zy b)]))]) [1] rfl (by decide);have m:=ZRa X m;refine aC _ rfl _ _ ⟨_,_,_,_,_,ak,(g++[b]).length,al,(k++[.string (Zy b)]),_,rfl,(leT (leT (leT ac af) V) X),(S.fr' rfl),m,a2,rfl⟩
  have H:=Zaa H u;refine Z4 S rfl u (wp_exit (Zqb ?_));obtain rfl:=Zw H;have hq:=aD _ rfl;subst hq;have H:=aA;refine Zqb (ZVd ?_);obtain rfl:=Zw H;refine Zi (ay _ _ ⟨_,p,h,q,k,_,rfl,(leT (leR _) ac),(S.fr' rfl),d,ae⟩)
 rintro f w ⟨o,F,s,G,U,I,hq,bJ,S,a3,am⟩;subst hq;have H:=ax;refine Zi (ar _ _ (Zp λ_ a4=>sr (mv S rfl λf S=>ov S rfl (ZDc S am rfl rfl ZSn) λf S=>ov S rfl (Zu S rfl rfl ZWg) λf S=>oe ?_)));rcases Zca (((o.length:Int))==(0:Int)) with B | B
 ·have H:=Zba H B;refine Zna S rfl B (sr (mw S rfl λf S=>oe (wp_ret (Z8b ?_))));obtain rfl:=Zw H;refine Zva S (Z0a rfl (ZP S rfl)) ⟨[.string (Zy (([48]:List UInt8)))],rfl,(Z1i zl)⟩
 have H:=Zaa H B;refine Z4 S rfl B (wp_skip (Zi (a4 _ _ (sr ?_))));obtain⟨an,bK,S,C⟩:=S.pubSlice (i:=0) (A:=ZAb) (l:=o) (ℓ':=[]) rfl rfl am a3 rfl;refine op_newB 5 S wn rfl zl (Zkh k_zv178) λr f w S a5=>oe (Zp λ_ a6=>Zp λ_ a7=>bO H λbM ao H=>ZD (mv S rfl λf S=>ov S rfl (ZDc S (Zxb C) rfl rfl ZSn) λf S=>ov S rfl (Zu S rfl rfl (ZDb ao)) λf S=>mw S rfl λf S=>Zz (Zi (a7 _ _ ?_))));obtain⟨a8,a9,ba⟩:=Z8 H;refine ZJb (λf w=>∃ Q R,Q=a8∧Zb.le an R∧St 49 e c [(7,.pointer (some ⟨r,0,none⟩))] [] R f w∧Bld 178 5 r e R Q w) (λ_ bb=>?_) ?_
 ·have H:=a9;refine wp_block ?_;obtain⟨bP,bc,bd⟩:=Z8 H;refine Zef bc (λbe f w=>∃ Z D T,(Z,D)=be∧Zb.le an T∧St 49 e c [(3,.slice (mkA F) s G),(7,.pointer (some ⟨r,0,none⟩)),(8,.int .i64 D)] [] T f w∧Bld 178 5 r e T Z w∧inR .i64 D) ⟨_,_,_,rfl,(leR _),(S.fr' rfl),a5,(Zob ao).2⟩ ?_;rintro _ f w st ⟨Z,D,T,hq,aa,S,ap,bQ⟩ H bR bf bg;subst hq;refine Zp λ_ bh=>sr (mv S rfl λf S=>ov S rfl (Zu S rfl rfl Zmj) λf S=>oe ?_);rcases Zca (decide ((0:Int)≤D)) with E | E
  ·have H:=Zba H E;refine Zna S rfl E (wp_skip (Zi (bh _ _ (Zp λ_ bi=>wp_block (bO H λbj ab H=>bO H λbS bk H=>ZD (mv S rfl λf S=>mv S rfl λf S=>?_))))));have C:=ZRa aa C;obtain⟨_,bT,bU,bV,bm,bn,bo⟩:=ZSc C (Zs ab).2.1;obtain⟨rfl,rfl⟩:=ZcC bm;obtain⟨rfl,bW⟩:=bo;refine ov S rfl (ZKa S rfl rfl ZSn (Zs ab).1 (ltI (Zxb C) (Zs ab).2.2.1)) λf S=>ov S rfl (ZCb S rfl k_sz9 (S.view bn)) λf S=>ZDx writes ap (ZSy bk) S wn rfl zl (ZO S [.pointer (some ⟨r,0,none⟩),.string (Zy bj)] k_en101 rfl rfl) λf w S bp=>Zz (Z5c (Zi (bi _ _ (bO H λbX aq H=>ZD (mv S rfl λf S=>ov S rfl (Zu S rfl rfl (ZDb aq)) λf S=>mw S rfl λf S=>Zz ?_)))));obtain rfl:=Zw H;refine bf _ rfl _ _ ⟨_,_,_,rfl,aa,(S.fr' rfl),bp,(Zob aq).2⟩
  have H:=Zaa H E;refine Z4 S rfl E (wp_exit (Zqb ?_));obtain rfl:=Zw H;have hq:=bg _ rfl;subst hq;have H:=bd;refine Zqb (ZVd ?_);obtain rfl:=Zw H;refine Zi (bb _ _ ⟨_,_,rfl,(leT (leR _) aa),(S.fr' rfl),ap⟩)
 rintro f w ⟨Q,R,hq,bY,S,bq⟩;subst hq;have H:=ba;refine Zi (a6 _ _ (Zp λ_ br=>bO H λbZ bs H=>ZD (op_tell tells bq S wn rfl zl (ZO S [.pointer (some ⟨r,0,none⟩)] k_en102 rfl rfl) λf w S=>mw S rfl λf S=>Zz (Zi (br _ _ (wp_ret ?_))))));obtain rfl:=Zw H;refine Zva S (Z0a rfl (ZP S rfl)) ⟨[.string (Zy Q)],rfl,(Z1i (Zpl bs))⟩
theorem text_c {c:World} {b:Zb} (hv:VIn b c) {d:List Value} {a:Nat} (f:Rep.rel Zx b d a) {z:(List UInt8)} (hm:Zog a=some z) :
  Ret Tryz.prog 61 #[Zx.val d] c b (λy v'=>∃ e,y=ZAb.val e∧ZAb.rel v' e z) :=
 text_w hv f (ZkB hm)
noncomputable def ZMp:FuncId×Con:=(61,⟨[.leaf 0],[.str],λp=>Zog p⟩)
theorem text_k:Zpe Tryz.prog ZMp.1 ZMp.2:=λw v vals x z hv ha hz=>by
 obtain⟨c0,e0,p0⟩:=ha;subst e0
 exact .inl ⟨λ_ _=>by kernel_rfl,Ret.mono (text_c hv p0 hz) λy v' _ ⟨r0,e,h0⟩=>⟨r0,e,h0⟩⟩
noncomputable def Z9l:FuncId×Con:=(26,⟨[.leaf 3],[.str],λp=>Z4c p⟩)
theorem Zrn:KQ Z9l:=Zl (ZF (C:=cf0 [ZMp] [] [] []) (.n (.n (.two (.n (.j [1] [] [.s 3 (.dat .str)] .no)) (.f (.n (.j [] [] [.s 3 (.dat .str)] .no)))))) Tryz.func26 [] (λv vals x z ha hz=>.trans (by kernel_rfl) (ZOy hz)) ⟨text_k,tr⟩)
noncomputable def Zsv:FuncId×Con:=(6,⟨[],[.bool],λ_=>Z2e⟩)
theorem ZHC:KQ Zsv:=Zl (ZM (C:=cf0 [Z4h,ZIu,Zzu,Z9l] [] [] []) (.n (.n (.n (.n (.f (.j [] [] [.s 0 (.dat .bool)] .no)))))) Tryz.func6 [] (λ_=>by kernel_rfl) ⟨ZRi,ZJz,Reach_k,Zrn,tr⟩)
noncomputable def Znv:FuncId×Con:=(62,⟨[.int .i64,.int .i64],[.leaf 3,.int .i64],λp=>Zyj p.1 p.2⟩)
theorem qnew_k:KQ Znv:=Zl (ZF (C:=cf0 [ZQh,of_q,ZXf] [] [] []) .no Tryz.func62 [] (λv vals x z ha hz=>by obtain⟨c0,w0,e0,p0,c1,e1,p1⟩:=ha;exact .trans (by kernel_rfl) (Z1w p0.2 p1.2 hz)) ⟨ZZk,of_k,Zei,tr⟩)
noncomputable def Zho:FuncId×Con:=(27,⟨[.pair (.int .i64) (.int .i64)],[.leaf 3],λp=>Zie p⟩)
theorem Zfq:KQ Zho:=Zl (ZF (C:=cf0 [Z4h,Znv] [] [] []) .no Tryz.func27 [] (λv vals x z ha hz=>.trans (by kernel_rfl) (Zey hz)) ⟨ZRi,qnew_k,tr⟩)
noncomputable def ZPe:FuncId×Con:=(115,⟨[.slice (.int .u32)],[.leaf 1],λp=>Zub p⟩)
theorem Zrf:KQ ZPe:=Zl (Z1l (C:=cf2 [] []) (.n (.n (.f (.j [0] [] [.s 3 (.dat (.int .i64))] (.f (.l [0] [] [.s 3 (.dat (.int .i64))] 0 [0] [] [.s 3 (.dat (.int .i64))] (.f (.f (.f (.j [0,3] [] [.s 15 (.dat .bool)] .no)))))))))) Tryz.func115 [] [.slice (.int .u32)] [.slice (.int .u32)] (λx=>(x)) (λz=>(Zc 4294967296 z)) (λv vals x z ha hz=>by obtain⟨c0,e0,p0⟩:=ha;exact .trans (by kernel_rfl) (by cases hz;exact (rcut_eq (Zun p0).1 (Zun p0).2))))
noncomputable def Zxi:FuncId×Con:=(70,⟨[.int .u64],[.leaf 1],λp=>Znc p⟩)
theorem Zik:KQ Zxi:=Zl (ZF (C:=cf2 [(62,1),(64,4)] [ZPe]) .no Tryz.func70 [] (λv vals x z ha hz=>by obtain⟨c0,e0,p0⟩:=ha;exact .trans (by kernel_rfl) (ZPA p0.2 hz)) ⟨Zrf,tr⟩)
noncomputable def Zph:FuncId×Con:=(92,⟨[.leaf 1,.leaf 1],[.leaf 1],λp=>Zpa p.1 p.2⟩)
theorem Zui:KQ Zph:=Zl (ZF (C:=cf2 [(62,1),(64,4)] [ZPe]) (.n (.n (.f (.n (.j [] [] [.s 5 (.own 183 (.int .u32))] (.f (.l [0,1] [] [.s 5 (.own 183 (.int .u32)),.s 6 (.dat (.int .i64))] 0 [] [] [.s 5 (.own 183 (.int .u32))] (.f (.n (.f (.f (.n (.f (.n (.j [0,1,6] [] [.s 5 (.own 183 (.int .u32)),.s 7 (.dat (.int .u64))] (.f (.l [0,1,6] [] [.s 5 (.own 183 (.int .u32)),.s 7 (.dat (.int .u64)),.s 8 (.dat (.int .i64))] 2 [0,1,6] [] [.s 5 (.own 183 (.int .u32)),.s 7 (.dat (.int .u64))] .no))))))))))))))))) Tryz.func92 [] (λv vals x z ha hz=>.trans (by kernel_rfl) (Zmx hz)) ⟨Zrf,tr⟩)
noncomputable def Z4k:FuncId×Con:=(117,⟨[.leaf 1,.leaf 1],[.int .i64],λp=>ZHd p.1 p.2⟩)
theorem Zcp:KQ Z4k:=Zl (ZF (C:=cf2 [(62,1),(64,4)] []) (.n (.n (.n (.f (.n (.cut ⟨⟨[],[],[]⟩,[(.norm,⟨[],[],[]⟩),(.ret,⟨[],[],[.s 1000 (.dat (.int .i64))]⟩)]⟩ (.f (.cut ⟨⟨[0,1],[],[.s 5 (.dat (.int .i64))]⟩,[(.ret,⟨[],[],[.s 1000 (.dat (.int .i64))]⟩),(.exit 0,⟨[],[],[]⟩)]⟩ .no)))))))) Tryz.func117 [] (λv vals x z ha hz=>by obtain⟨c0,w0,e0,p0,c1,e1,p1⟩:=ha;exact .trans (by kernel_rfl) ((Zlz (ZIr p0) (ZIr p1)).trans hz)))
noncomputable def Zro:FuncId×Con:=(119,⟨[.leaf 1,.leaf 1],[.leaf 1],λp=>Zoc p.1 p.2⟩)
theorem Z5u:KQ Zro:=Zl (ZF (C:=cf2 [(62,1),(64,4)] [ZPe]) (.n (.n (.n (.f (.n (.j [] [] [.s 5 (.own 183 (.int .u32))] (.f (.l [0,1] [] [.s 5 (.own 183 (.int .u32)),.s 6 (.dat (.int .i64)),.s 7 (.dat (.int .i64))] 0 [] [] [.s 5 (.own 183 (.int .u32))] (.f (.n (.f (.f (.n (.two (.n (.j [0,1,5,7] [] [.s 8 (.dat (.int .i64))] .no)) (.n (.f (.n (.j [0,1,5,7] [] [.s 6 (.dat (.int .i64)),.s 8 (.dat (.int .i64))] .no)))))))))))))))))) Tryz.func119 [] (λv vals x z ha hz=>.trans (by kernel_rfl) (Z8y hz)) ⟨Zrf,tr⟩)
noncomputable def Z3o:FuncId×Con:=(144,⟨[.leaf 1,.int .u32],[.leaf 1,.int .u32],λp=>ZZf p.1 p.2⟩)
theorem ZLv:KQ Z3o:=Zl (ZF (C:=cf2 [(62,1),(64,4)] [ZPe]) (.n (.n (.n (.f (.n (.j [] [] [.s 6 (.own 183 (.int .u32)),.s 7 (.dat (.int .u64))] (.f (.l [0,1] [] [.s 6 (.own 183 (.int .u32)),.s 7 (.dat (.int .u64)),.s 8 (.dat (.int .i64))] 0 [] [] [.s 6 (.own 183 (.int .u32)),.s 7 (.dat (.int .u64))] .no)))))))) Tryz.func144 [] (λv vals x z ha hz=>by obtain⟨c0,w0,e0,p0,c1,e1,p1⟩:=ha;exact .trans (by kernel_rfl) (ZXz p1.2 hz)) ⟨Zrf,tr⟩)
noncomputable def Znq:FuncId×Con:=(145,⟨[.leaf 1],[.int .i64],λp=>Zci p⟩)
theorem rbits_k:KQ Znq:=Zl (ZF (C:=cf2 [(62,1),(64,4)] []) (.n (.n (.n (.f (.n (.j [] [] [.s 3 (.dat (.int .i64))] (.f (.l [] [] [.s 3 (.dat (.int .i64)),.s 4 (.dat (.int .u32))] 0 [] [] [.s 3 (.dat (.int .i64))] .no)))))))) Tryz.func145 [] (λv vals x z ha hz=>.trans (by kernel_rfl) (ZaC hz)))
noncomputable def Zrs:FuncId×Con:=(146,⟨[.leaf 1,.int .i64],[.leaf 1],λp=>ZDe p.1 p.2⟩)
theorem ZQx:KQ Zrs:=Zl (ZF (C:=cf2 [(62,1),(64,4)] [ZPe]) (.n (.n (.n (.n (.f (.n (.j [] [] [.s 5 (.own 183 (.int .u32)),.s 6 (.dat (.int .u64))] (.f (.l [0,1] [] [.s 5 (.own 183 (.int .u32)),.s 6 (.dat (.int .u64)),.s 7 (.dat (.int .i64))] 0 [] [] [.s 5 (.own 183 (.int .u32)),.s 6 (.dat (.int .u64))] .no))))))))) Tryz.func146 [] (λv vals x z ha hz=>.trans (by kernel_rfl) (ZGy hz)) ⟨Zrf,tr⟩)
noncomputable def ZDu:FuncId×Con:=(147,⟨[.leaf 1,.int .i64],[.leaf 1],λp=>ZMh p.1 p.2⟩)
theorem Zqz:KQ ZDu:=Zl (ZF (C:=cf2 [(62,1),(64,4)] [ZPe]) (.n (.n (.f (.n (.j [] [] [.s 5 (.own 183 (.int .u32))] (.f (.l [0,1] [] [.s 5 (.own 183 (.int .u32)),.s 6 (.dat (.int .i64))] 0 [] [] [.s 5 (.own 183 (.int .u32))] (.f (.n (.f (.f (.n (.f (.n (.j [0,1,5,6] [] [.s 7 (.dat (.int .u64))] .no))))))))))))))) Tryz.func147 [] (λv vals x z ha hz=>by obtain⟨c0,w0,e0,p0,c1,e1,p1⟩:=ha;exact .trans (by kernel_rfl) (Z8A p1.2 hz)) ⟨Zrf,tr⟩)
noncomputable def ZTn:FuncId×Con:=(114,⟨[.leaf 1,.leaf 1],[.leaf 1,.leaf 1],λp=>Z6c p.1 p.2⟩)
theorem ZIq:KQ ZTn:=Zl (ZF (C:=cf2 [(62,1),(64,4)] [Zxi,Zph,ZPe,Z4k,Zro,Z3o,Znq,Zrs,ZDu]) (.n (.n (.n (.n (.n (.n (.n (.f (.n (.j [8] [] [.s 10 (.dat (.leaf 1)),.s 12 (.own 183 (.int .u32))] (.f (.l [8,9,11] [] [.s 10 (.dat (.leaf 1)),.s 12 (.own 183 (.int .u32)),.s 13 (.dat (.int .i64))] 0 [8] [] [.s 10 (.dat (.leaf 1)),.s 12 (.own 183 (.int .u32))] (.f (.n (.f (.j [8,9,11,13] [] [.s 10 (.dat (.leaf 1)),.s 12 (.own 183 (.int .u32))] (.f (.n (.two (.n (.j [8,9,10,11,12,13] [] [.s 14 (.dat (.slice (.int .u32)))] .no)) (.n (.n (.two (.n (.j [8,9,10,11,12,13,14] [] [.s 15 (.dat (.int .u64))] .no)) (.n (.two (.n (.j [8,9,10,11,12,13,14] [] [.s 16 (.dat (.int .u64))] .no)) (.n (.f (.j [8,9,10,11,12,13,14] [] [.s 16 (.dat (.int .u64)),.s 17 (.dat (.leaf 1))] (.f (.l [8,9,10,11,12,13,14] [] [.s 16 (.dat (.int .u64)),.s 17 (.dat (.leaf 1))] 2 [8,9,10,11,12,13,14] [] [.s 16 (.dat (.int .u64)),.s 17 (.dat (.leaf 1))] .no))))))))))))))))))))))))))))) Tryz.func114 [] (λv vals x z ha hz=>.trans (by kernel_rfl) (ZIw hz)) ⟨Zik,Zui,Zrf,Zcp,Z5u,ZLv,rbits_k,ZQx,Zqz,tr⟩)
noncomputable def Z4v:FuncId×Con:=(113,⟨[.leaf 1,.leaf 1],[.leaf 1],λp=>rgcF p.1 p.2⟩)
theorem rgcd_k:KQ Z4v:=Zl (ZF (C:=cf2 [(62,1),(64,4)] [ZTn]) (.n (.f (.j [] [] [.s 0 (.dat (.leaf 1))] (.f (.l [] [] [.s 0 (.dat (.leaf 1)),.s 1 (.dat (.leaf 1))] 0 [] [] [.s 0 (.dat (.leaf 1))] .no))))) Tryz.func113 [] (λv vals x z ha hz=>.trans (by kernel_rfl) (rgcF_eq hz)) ⟨ZIq,tr⟩)
noncomputable def ZSf:FuncId×Con:=(69,⟨[.bool,.leaf 1,.leaf 1],[.leaf 4],λp=>ZWa p.1 p.2.1 p.2.2⟩)
theorem Zag:KQ ZSf:=Zl (ZF (C:=cf2 [(62,1),(64,4)] [Z4v,ZTn]) .no Tryz.func69 [] (λv vals x z ha hz=>.trans (by kernel_rfl) (ZaB hz)) ⟨rgcd_k,ZIq,tr⟩)
noncomputable def Zhf:FuncId×Con:=(63,⟨[.int .i64],[.leaf 4],λp=>ZHa p⟩)
theorem ZEf:KQ Zhf:=Zl (ZF (C:=cf2 [(62,1),(64,4)] [ZSf,Zxi]) .no Tryz.func63 [] (λv vals x z ha hz=>by obtain⟨c0,e0,p0⟩:=ha;exact .trans (by kernel_rfl) (Zvw p0.2 hz)) ⟨Zag,Zik,tr⟩)
noncomputable def ZOv:FuncId×Con:=(64,⟨[.int .i64,.int .i64],[.leaf 4,.int .i64],λp=>Zsj p.1 p.2⟩)
theorem rnew_k:KQ ZOv:=Zl (ZF (C:=cf2 [(62,1),(64,4)] [Zhf,ZSf]) .no Tryz.func64 [] (λv vals x z ha hz=>by obtain⟨c0,w0,e0,p0,c1,e1,p1⟩:=ha;exact .trans (by kernel_rfl) (ZGx p0.2 p1.2 hz)) ⟨ZEf,Zag,tr⟩)
noncomputable def rof_q:FuncId×Con:=(28,⟨[.pair (.int .i64) (.int .i64)],[.leaf 4],λp=>Zfe p⟩)
theorem rof_k:KQ rof_q:=Zl (ZF (C:=cf2 [(62,1),(64,4)] [Zhf,ZOv]) .no Tryz.func28 [] (λv vals x z ha hz=>.trans (by kernel_rfl) (rofF_eq hz)) ⟨ZEf,rnew_k,tr⟩)
noncomputable def Zkq:FuncId×Con:=(7,⟨[.slice (.pair (.pair (.int .i64) (.int .i64)) (.pair (.pair (.int .i64) (.int .i64)) (.pair (.pair (.int .i64) (.int .i64)) (.pair (.int .i64) (.int .i64)))))],[.slice (.pair (.leaf 3) (.pair (.leaf 3) (.pair (.leaf 3) (.leaf 3)))),.slice (.pair (.pair .bool (.pair (.leaf 1) (.leaf 1))) (.pair (.pair .bool (.pair (.leaf 1) (.leaf 1))) (.pair (.pair .bool (.pair (.leaf 1) (.leaf 1))) (.pair .bool (.pair (.leaf 1) (.leaf 1))))))],λp=>ZLh p⟩)
theorem ZSx:KQ Zkq:=Zl (ZM (C:=cf2 [(34,0),(36,2),(38,3),(62,1)] [Zho,rof_q]) (.n (.n (.f (.n (.f (.l [4,5,14,15] [] [.s 16 (.dat (.int .i64)),.l (.sl 4) (.own 58 (.pair (.leaf 3) (.pair (.leaf 3) (.pair (.leaf 3) (.leaf 3))))),.l (.sl 5) (.own 93 (.pair (.pair .bool (.pair (.leaf 1) (.leaf 1))) (.pair (.pair .bool (.pair (.leaf 1) (.leaf 1))) (.pair (.pair .bool (.pair (.leaf 1) (.leaf 1))) (.pair .bool (.pair (.leaf 1) (.leaf 1)))))))] 0 [4,5] [] [.l (.sl 4) (.own 58 (.pair (.leaf 3) (.pair (.leaf 3) (.pair (.leaf 3) (.leaf 3))))),.l (.sl 5) (.own 93 (.pair (.pair .bool (.pair (.leaf 1) (.leaf 1))) (.pair (.pair .bool (.pair (.leaf 1) (.leaf 1))) (.pair (.pair .bool (.pair (.leaf 1) (.leaf 1))) (.pair .bool (.pair (.leaf 1) (.leaf 1)))))))] .no)))))) Tryz.func7 [] (λ_=>by kernel_rfl) ⟨Zfq,rof_k,tr⟩)
noncomputable def ZFu:FuncId×Con:=(8,⟨[.slice (.pair (.int .i64) (.int .i64))],[.slice (.leaf 3),.slice (.pair .bool (.pair (.leaf 1) (.leaf 1)))],λp=>ZXh p⟩)
theorem ZJA:KQ ZFu:=Zl (ZM (C:=cf2 [(34,0),(36,2),(38,3),(62,1)] [Zho,rof_q]) (.n (.n (.f (.n (.f (.l [4,5,14,15] [] [.s 16 (.dat (.int .i64)),.l (.sl 4) (.own 38 (.leaf 3)),.l (.sl 5) (.own 64 (.pair .bool (.pair (.leaf 1) (.leaf 1))))] 0 [4,5] [] [.l (.sl 4) (.own 38 (.leaf 3)),.l (.sl 5) (.own 64 (.pair .bool (.pair (.leaf 1) (.leaf 1))))] .no)))))) Tryz.func8 [] (λ_=>by kernel_rfl) ⟨Zfq,rof_k,tr⟩)
noncomputable def Zdu:FuncId×Con:=(12,⟨[.pair (.pair (.leaf 3) (.slice (.pair (.leaf 3) (.leaf 3)))) (.pair (.leaf 3) (.slice (.pair (.leaf 3) (.leaf 3))))],[.bool],λp=>ZSk p⟩)
theorem none4_k:KQ Zdu:=Zl (ZM (C:=cf0 [Zri] [] [] []) (.n (.f (.j [] [] [.s 2 (.dat .bool)] .no))) Tryz.func12 [] (λ_=>by kernel_rfl) ⟨ZQl,tr⟩)
noncomputable def ZSp:FuncId×Con:=(112,⟨[.leaf 1,.leaf 1],[.leaf 1],λp=>Zof p.1 p.2⟩)
theorem Zes:KQ ZSp:=Zl (ZF (C:=cf2 [(62,1),(64,4)] [ZPe]) (.n (.n (.n (.f (.n (.j [] [] [.s 5 (.own 183 (.int .u32)),.s 6 (.dat (.int .u64))] (.f (.l [0,1] [] [.s 5 (.own 183 (.int .u32)),.s 6 (.dat (.int .u64)),.s 7 (.dat (.int .i64))] 0 [] [] [.s 5 (.own 183 (.int .u32)),.s 6 (.dat (.int .u64))] (.f (.two (.f (.j [0,1,5,6,7] [] [.s 18 (.dat .bool)] .no)) (.f (.f (.two (.n (.j [0,1,5,7] [] [.s 6 (.dat (.int .u64))] .no)) (.f (.n (.j [0,1,5,7] [] [.s 6 (.dat (.int .u64))] .no)))))))))))))))) Tryz.func112 [] (λv vals x z ha hz=>.trans (by kernel_rfl) (Zpw hz)) ⟨Zrf,tr⟩)
noncomputable def Zdq:FuncId×Con:=(68,⟨[.str],[.leaf 1],λp=>Zth p⟩)
theorem rRead_k:KQ Zdq:=Zl (ZM (C:=cf0 [Zxi,Zph,ZSp] [] [] []) (.n (.n (.f (.n (.f (.l [0] [] [.s 3 (.dat (.leaf 1)),.s 4 (.dat (.int .i64))] 0 [] [] [.s 3 (.dat (.leaf 1))] .no)))))) Tryz.func68 [] (λ_=>by kernel_rfl) ⟨Zik,Zui,Zes,tr⟩)
noncomputable def Z7u:FuncId×Con:=(34,⟨[.leaf 3],[.leaf 4],λp=>ZLc p⟩)
theorem ZyA:KQ Z7u:=Zl (ZM (C:=cf0 [Z9l,Zhf,Zdq,ZSf,Zxi] [] [] []) (.n (.n (.two (.j [2,3] [] [.s 4 (.dat .bool)] .no) (.two (.n (.j [2,4] [] [.s 3 (.dat .str)] .no)) (.f (.n (.f (.cut ⟨⟨[2,3,4],[],[.s 5 (.dat (.int .i64))]⟩,[(.exit 0,⟨[2,3,4],[],[]⟩),(.ret,⟨[],[],[.s 1000 (.dat (.leaf 4))]⟩)]⟩ (.f (.n (.f (.f (.two (.f (.j [2,3,4,5] [] [.s 42 (.dat .bool)] .no)) (.n (.f (.f (.n (.f (.cut ⟨⟨[2,3,4,5],[],[.s 6 (.dat (.int .i64))]⟩,[(.exit 2,⟨[2,3,4,5],[],[]⟩),(.ret,⟨[],[],[.s 1000 (.dat (.leaf 4))]⟩)]⟩ (.f (.n (.f (.f (.f (.j [2,3,4,5,6] [] [.s 65 (.dat .bool)] .no))))))))))))))))))))))))) Tryz.func34 [] (λ_=>by kernel_rfl) ⟨Zrn,ZEf,rRead_k,Zag,Zik,tr⟩)
noncomputable def Z1k:FuncId×Con:=(66,⟨[.leaf 4],[.bool],λp=>ZAe p⟩)
theorem ZKp:KQ Z1k:=Zl (ZF (C:=cf2 [(62,1),(64,4)] []) .no Tryz.func66 [] (λv vals x z ha hz=>.trans (by kernel_rfl) (ZCw hz)))
theorem Z2w {x:Rat} {z:Int} (h:ZKb x=some z):ZYu x=some z:=by
 unfold ZKb at h
 cases h
 unfold ZYu ZAe;rw[Za];by_cases h0:x=0
 ·subst h0;rfl
 ·have:=Z6k h0;rw[dFq h0,Ze];by_cases h1:x.num<0
  ·rw[dTq h1,Zf,Int.sign_eq_neg_one_of_neg h1]
  ·rw[dFq h1,Ze,Int.sign_eq_one_of_pos (by omega)]
noncomputable def ZBf:FuncId×Con:=(32,⟨[.leaf 4],[.int .i64],λp=>ZKb p⟩)
theorem ZKg:KQ ZBf:=Zl (ZF (C:=cf2 [(62,1),(64,4)] [Z1k]) .no Tryz.func32 [] (λv vals x z ha hz=>.trans (by kernel_rfl) (Z2w hz)) ⟨ZKp,tr⟩)
noncomputable def Zah:FuncId×Con:=(93,⟨[.leaf 4],[.leaf 1],λp=>Z5b p⟩)
theorem Znj:KQ Zah:=Zl (ZF (C:=cf2 [(62,1),(64,4)] []) .no Tryz.func93 [] (λv vals x z ha hz=>.trans (by kernel_rfl) (ZRy hz)))
theorem radd_eq {x y:Rat} (h:smQ x) (h':smQ y):Z3m x y=some (x+y):=by
 obtain⟨a1,a2⟩:=h;obtain⟨b1,b2⟩:=h';unfold Z3m Z5b;have p1:=Zab x.num.natAbs y.den;have p2:=Zab y.num.natAbs x.den;have p3:=Zab x.den y.den;have p4:=ZBm (x.num.natAbs*y.den) (y.num.natAbs*x.den);have hd:x.den*y.den≠0:=Nat.mul_ne_zero x.den_nz y.den_nz;have e1:Zpa x.num.natAbs y.den=some (x.num.natAbs*y.den):=by unfold Zpa;rw[iP ⟨ZGb (by omega),ZGb (by omega)⟩]
 have e2:Zpa y.num.natAbs x.den=some (y.num.natAbs*x.den):=by unfold Zpa;rw[iP ⟨ZGb (by omega),ZGb (by omega)⟩]
 have e3:Zpa x.den y.den=some (x.den*y.den):=by unfold Zpa;rw[iP ⟨ZGb (by omega),ZGb (by omega)⟩]
 have eN:((x.num.natAbs*y.den:Nat):Int)=(x.num.natAbs:Int)*y.den:=by simp
 have eM:((y.num.natAbs*x.den:Nat):Int)=(y.num.natAbs:Int)*x.den:=by simp
 have key:∀ (s:Bool) (n:Nat),bl n≤1099511627776→sgn s n=x.num*y.den+y.num*x.den→ZWa s n (x.den*y.den)=some (x+y):=by
  intro s n hn he;unfold ZWa;rw[iP ⟨ZFd hn,ZFd (by omega),hd⟩,he,← Rat.add_def']
 rw[Za,Za,e1,Za,e2,Za,e3];obtain⟨N,hN⟩:∃ N,N=x.num.natAbs*y.den:=⟨_,rfl⟩;obtain⟨M,hM⟩:∃ M,M=y.num.natAbs*x.den:=⟨_,rfl⟩;rw[← hN]at p1 p4 eN ⊢;rw[← hM]at p2 p4 eM ⊢;have sx:x.num*(y.den:Int)=if x.num<0 then -(N:Int) else N:=by
  split
  ·rw[eN,← Int.neg_mul];congr 1;omega
  ·rw[eN];congr 1;omega
 have sy:y.num*(x.den:Int)=if y.num<0 then -(M:Int) else M:=by
  split
  ·rw[eM,← Int.neg_mul];congr 1;omega
  ·rw[eM];congr 1;omega
 by_cases hs:(x.num<0)↔(y.num<0)
 ·have e4:Zof N M=some (N+M):=by unfold Zof;rw[iP ⟨ZGb (by omega),ZGb (by omega)⟩]
  have e5:((decide (x.num<0))==(decide (y.num<0)))=true:=by
   by_cases h:x.num<0
   ·simp[h,hs.1 h]
   ·have h2:¬ y.num<0:=λk=>h (hs.2 k);simp[h,h2]
  rw[e5,Zf,e4,Za,Za,key _ _ (by omega) ?_,Za];rw[sx,sy];unfold sgn;by_cases h:x.num<0
  ·have h2:=hs.1 h;simp[h,h2];omega
  ·have h2:¬ y.num<0:=λk=>h (hs.2 k);simp[h,h2]
 ·have e5:((decide (x.num<0))==(decide (y.num<0)))=false:=by
   apply beq_false_of_ne;intro h;exact hs (by by_cases k:x.num<0 <;> by_cases k2:y.num<0 <;> simp_all)
  rw[e5,Ze];unfold ZHd;rw[Za];by_cases hle:M≤N
  ·have e6:decide ((0:Int)≤Zwa N M)=true:=by
    unfold Zwa;rw[iN (by omega)];split <;> rfl
   have e4:Zoc N M=some (N-M):=by unfold Zoc;rw[iP ⟨ZGb (by omega),hle⟩]
   have hb:bl (N-M)≤bl N:=Zaf (by omega);rw[e6,Zf,e4,Za,Za,key _ _ (by omega) ?_,Za];rw[sx,sy];unfold sgn;by_cases h:x.num<0
   ·have h2:¬ y.num<0:=λk=>hs ⟨λ_=>k,λ_=>h⟩;simp[h,h2];omega
   ·have h2:y.num<0:=by
     rcases Int.lt_or_le y.num 0 with k | k
     ·exact k
     ·exact absurd ⟨λq=>absurd q h,λq=>absurd q (by omega)⟩ hs
    simp[h,h2];omega
  ·have e6:decide ((0:Int)≤Zwa N M)=false:=by
    unfold Zwa;rw[iP (by omega)];rfl
   have e4:Zoc M N=some (M-N):=by unfold Zoc;rw[iP ⟨ZGb (by omega),by omega⟩]
   have hb:bl (M-N)≤bl M:=Zaf (by omega);rw[e6,Ze,e4,Za,Za,key _ _ (by omega) ?_,Za];rw[sx,sy];unfold sgn;by_cases h:x.num<0
   ·have h2:¬ y.num<0:=λk=>hs ⟨λ_=>k,λ_=>h⟩;simp[h,h2];omega
   ·have h2:y.num<0:=by
     rcases Int.lt_or_le y.num 0 with k | k
     ·exact k
     ·exact absurd ⟨λq=>absurd q h,λq=>absurd q (by omega)⟩ hs
    simp[h,h2];omega
theorem Z0x {x y z:Rat} (h:ZRb x y=some z):Z3m x y=some z:=by
 unfold ZRb at h;split at h
 ·rename_i hh;rw[radd_eq hh.1 hh.2,h]
 ·cases h
noncomputable def Z5i:FuncId×Con:=(76,⟨[.leaf 4,.leaf 4],[.leaf 4],λp=>ZRb p.1 p.2⟩)
theorem Zbm:KQ Z5i:=Zl (ZF (C:=cf2 [(62,1),(64,4)] [ZSf,Zph,Zah,ZSp,Z4k,Zro]) .no Tryz.func76 [] (λv vals x z ha hz=>.trans (by kernel_rfl) (Z0x hz)) ⟨Zag,Zui,Znj,Zes,Zcp,Z5u,tr⟩)
theorem rneg_eq {x:Rat} (h:okQ x):ZUm x=some (-x):=by
 obtain⟨h1,h2⟩:=h;unfold ZUm Z5b ZWa;rw[Za,iP ⟨ZFd h1,ZFd h2,x.den_nz⟩,Za];congr 1;have e:sgn (!(decide (x.num<0))) x.num.natAbs = -x.num:=by
  unfold sgn;by_cases h:x.num<0
  ·simp[h];omega
  ·simp[h];omega
 rw[e];exact Rat.mkRat_self (-x)
theorem ZGC {x z:Rat} (h:Zfg x=some z):ZUm x=some z:=by
 unfold Zfg at h;split at h
 ·rename_i hh;rw[rneg_eq hh,h]
 ·cases h
noncomputable def Zgn:FuncId×Con:=(111,⟨[.leaf 4],[.leaf 4],λp=>Zfg p⟩)
theorem Zst:KQ Zgn:=Zl (ZF (C:=cf2 [(62,1),(64,4)] [ZSf,Zah]) .no Tryz.func111 [] (λv vals x z ha hz=>.trans (by kernel_rfl) (ZGC hz)) ⟨Zag,Znj,tr⟩)
theorem Zrw {x y z:Rat} (h:Z6e x y=some z):Zpu x y=some z:=by
 unfold Z6e at h;split at h
 ·rename_i hh;unfold Zpu Zfg ZRb;rw[iP (smQ_ok hh.2),Za,iP ⟨hh.1,smQ_neg hh.2⟩,Za,← Rat.sub_eq_add_neg];exact h
 ·cases h
noncomputable def ZMm:FuncId×Con:=(67,⟨[.leaf 4,.leaf 4],[.leaf 4],λp=>Z6e p.1 p.2⟩)
theorem ZTs:KQ ZMm:=Zl (ZF (C:=cf2 [(62,1),(64,4)] [Z5i,Zgn]) .no Tryz.func67 [] (λv vals x z ha hz=>.trans (by kernel_rfl) (Zrw hz)) ⟨Zbm,Zst,tr⟩)
theorem Z6A {x y:Rat} {z:Int} (h:ZEc x y=some z):ZHu x y=some z:=by
 unfold ZEc at h;split at h
 ·rename_i hh
  cases h
  unfold ZHu Z6e ZKb;rw[iP hh,Za,Za]
 ·cases h
noncomputable def ZKh:FuncId×Con:=(33,⟨[.leaf 4,.leaf 4],[.int .i64],λp=>ZEc p.1 p.2⟩)
theorem ZFi:KQ ZKh:=Zl (ZF (C:=cf2 [(62,1),(64,4)] [ZBf,ZMm]) .no Tryz.func33 [] (λv vals x z ha hz=>.trans (by kernel_rfl) (Z6A hz)) ⟨ZKg,ZTs,tr⟩)
noncomputable def ZVu:FuncId×Con:=(35,⟨[.pair (.leaf 4) (.slice (.pair (.leaf 4) (.leaf 4)))],[.int .i64],λp=>Zgl p⟩)
theorem Zjy:KQ ZVu:=Zl (ZM (C:=cf0 [ZBf,ZKh] [] [] []) (.n (.n (.n (.f (.n (.f (.cut ⟨⟨[1],[],[.s 3 (.dat (.int .i64))]⟩,[(.exit 0,⟨[],[],[]⟩),(.ret,⟨[],[],[.s 1000 (.dat (.int .i64))]⟩)]⟩ (.f (.n (.f (.f (.two (.f (.j [1,3] [] [.s 36 (.dat .bool)] .no)) (.f (.j [1,3] [] [.s 55 (.dat .bool)] .no)))))))))))))) Tryz.func35 [] (λ_=>by kernel_rfl) ⟨ZKg,ZFi,tr⟩)
theorem Z4w {x y:Rat} {z:Bool} (h:ZAg x y=some z):Zlq x y=some z:=by
 unfold ZAg at h;split at h
 ·rename_i hh
  cases h
  unfold Zlq ZEc;rw[iP hh,Za];congr 1;rw[Bool.eq_iff_iff];simp only[beq_iff_eq,decide_eq_true_iff,Int.sign_eq_zero_iff_zero,Rat.num_eq_zero];constructor
  ·intro h;grind
  ·intro h;grind
 ·cases h
noncomputable def ZNm:FuncId×Con:=(71,⟨[.leaf 4,.leaf 4],[.bool],λp=>ZAg p.1 p.2⟩)
theorem ZAu:KQ ZNm:=Zl (ZF (C:=cf2 [(62,1),(64,4)] [ZKh]) .no Tryz.func71 [] (λv vals x z ha hz=>.trans (by kernel_rfl) (Z4w hz)) ⟨ZFi,tr⟩)
noncomputable def ZFt:FuncId×Con:=(36,⟨[.pair (.leaf 4) (.slice (.pair (.leaf 4) (.leaf 4))),.slice (.leaf 4)],[.bool],λp=>Zol p.1 p.2⟩)
theorem Zly:KQ ZFt:=Zl (ZM (C:=cf0 [ZNm] [] [] []) (.n (.n (.f (.n (.f (.cut ⟨⟨[1,2],[],[.s 5 (.dat (.int .i64))]⟩,[(.exit 0,⟨[],[],[]⟩),(.ret,⟨[],[],[.s 1000 (.dat .bool)]⟩)]⟩ .no)))))) Tryz.func36 [] (λ_=>by kernel_rfl) ⟨ZAu,tr⟩)
noncomputable def Zxr (x:Rat):Option ((List UInt8)) :=
 bnd (Z8g x.num.natAbs) λb =>
 bnd (ifb (decide (x.num<0))
 (bnd (ZAe x) λd =>
 some (!(d)))
 (some false))
 (λ(e:Bool) =>
 (bnd (ifb (e)
 (bnd (ZEb ((([45]:List UInt8))++b)) λj =>
 some (((([45]:List UInt8))++b)))
 (some b))
 (λ(a:(List UInt8)) =>
 (bnd (Z5b x) λf =>
 bnd (ZMb ([(1:Int)])) λg =>
 bnd (ZHd f g) λh =>
 bnd (ifb (decide ((0:Int)<h))
 (bnd (ZEb (a++(([47]:List UInt8)))) λk =>
 bnd (Z8g x.den) λc =>
 bnd (ZEb (((a++(([47]:List UInt8))))++c)) λl =>
 some ((((a++(([47]:List UInt8))))++c)))
 (some a))
 (λ(i:(List UInt8)) =>
 (some i))))))
noncomputable def ZUq:FuncId×Con:=(116,⟨[.leaf 1],[.str],λp=>Z8g p⟩)
theorem Zby:KQ ZUq:=Zl (ZF (C:=cf2 [(62,1),(64,4)] [Z3o]) (.n (.n (.f (.j [] [] [.s 3 (.dat .str)] (.f (.l [] [] [.s 0 (.dat (.leaf 1)),.s 3 (.dat .str)] 0 [] [] [.s 3 (.dat .str)] (.f (.n (.f (.n (.f (.n (.j [4] [] [.s 3 (.dat .str)] (.f (.l [4] [] [.s 3 (.dat .str),.s 5 (.dat (.int .u32)),.s 6 (.dat (.int .i64))] 2 [4] [] [.s 3 (.dat .str)] (.f (.f (.f (.j [3,4,5,6] [] [.s 25 (.dat .bool)] .no))))))))))))))))))) Tryz.func116 [] (λv vals x z ha hz=>.trans (by kernel_rfl) (Zmz hz)) ⟨ZLv,tr⟩)
theorem ZOA {x:Rat} {z:List UInt8} (h:ZKi x=some z):Zxr x=some z:=by
 unfold ZKi at h;split at h
 ·rename_i hh;obtain⟨h1,h2⟩:=hh
  cases h
  unfold Zxr Z8g;have l1:=Zhk (n:=x.num.natAbs) (by omega);have l2:=Zhk (n:=x.den) (by omega);rw[iP (ZFd h1),Za];have e0:ifb (decide (x.num<0)) (bnd (ZAe x) λy136=>some (!(y136))) (some false)=some (decide (x.num<0)):=by
   unfold ZAe;by_cases h:x.num<0
   ·have:x≠0:=λe=>by subst e;simp at h
    rw[dTq h,Zf,Za,dFq this];rfl
   ·rw[dFq h,Ze]
  rw[e0,Za];have e1:ifb (decide (x.num<0)) (bnd (ZEb ([45]++Z9 x.num.natAbs)) λy80=>some (([45]:List UInt8)++Z9 x.num.natAbs)) (some (Z9 x.num.natAbs))=some ((if x.num<0 then [45] else [])++Z9 x.num.natAbs):=by
   by_cases h:x.num<0
   ·rw[dTq h,Zf,Zcf (by simp;omega),Za,iP h]
   ·rw[dFq h,Ze,iN h];rfl
  rw[e1,Za];unfold txtQ Z5b ZHd;have l3:((if x.num<0 then [45] else [])++Z9 x.num.natAbs:List UInt8).length≤4398046511105:=by
   rw[lA];split <;> simp <;> omega
  generalize ((if x.num<0 then [45] else [])++Z9 x.num.natAbs:List UInt8)=s at *;rw[Za,Zup,Za,Za,ZEr];by_cases hd:x.den=1
  ·rw[hd];simp[ifb,bnd]
  ·have:=x.den_nz;rw[dTq (by omega),Zf,Zcf (by simp;omega),Za,iP (ZFd h2),Za,Zcf (by simp;omega),Za,Za,iN hd];simp
 ·cases h
noncomputable def Zjr:FuncId×Con:=(72,⟨[.leaf 4],[.str],λp=>ZKi p⟩)
theorem rtext_k:KQ Zjr:=Zl (ZF (C:=cf2 [(62,1),(64,4)] [Z1k,Zah,ZUq,Z4k]) (.n (.n (.two (.two (.j [1,3] [] [.s 13 (.dat .bool)] .no) (.j [1] [] [.s 3 (.dat .str)] .no)) (.f (.n (.j [] [] [.s 3 (.dat .str)] .no)))))) Tryz.func72 [] (λv vals x z ha hz=>.trans (by kernel_rfl) (ZOA hz)) ⟨ZKp,Znj,Zby,Zcp,tr⟩)
noncomputable def is1_q:FuncId×Con:=(37,⟨[.leaf 3,.leaf 4],[.bool],λp=>Zdl p.1 p.2⟩)
theorem is1_k:KQ is1_q:=Zl (ZM (C:=cf0 [Z9l,Zjr] [] [] []) .no Tryz.func37 [] (λ_=>by kernel_rfl) ⟨Zrn,rtext_k,tr⟩)
theorem ZjA {x y z:Rat} (h:Zbc x y=some z):ZOt x y=some z:=by
 unfold Zbc at h;split at h
 ·rename_i hh;obtain⟨⟨a1,a2⟩,b1,b2⟩:=hh
  cases h
  unfold ZOt Z5b;have p1:=Zab x.num.natAbs y.num.natAbs;have p3:=Zab x.den y.den;have e1:Zpa x.num.natAbs y.num.natAbs=some (x.num.natAbs*y.num.natAbs):=by unfold Zpa;rw[iP ⟨ZGb (by omega),ZGb (by omega)⟩]
  have e3:Zpa x.den y.den=some (x.den*y.den):=by unfold Zpa;rw[iP ⟨ZGb (by omega),ZGb (by omega)⟩]
  rw[e1,Za,Za,Za,e3,Za];unfold ZWa;rw[iP ⟨ZFd (by omega),ZFd (by omega),Nat.mul_ne_zero x.den_nz y.den_nz⟩,Za];have e:sgn ((decide (x.num<0)) != (decide (y.num<0))) (x.num.natAbs*y.num.natAbs)=x.num*y.num:=by
   have eN:((x.num.natAbs*y.num.natAbs:Nat):Int)=(x.num.natAbs:Int)*y.num.natAbs:=by simp
   unfold sgn;rw[eN];by_cases h:x.num<0
   ·have hx:(x.num.natAbs:Int) = -x.num:=by omega
    by_cases h2:y.num<0
    ·have hy:(y.num.natAbs:Int) = -y.num:=by omega
     simp[h,h2,hx,hy,Int.neg_mul,Int.mul_neg]
    ·have hy:(y.num.natAbs:Int)=y.num:=by omega
     simp[h,h2,hx,hy,Int.neg_mul,Int.mul_neg]
   ·have hx:(x.num.natAbs:Int)=x.num:=by omega
    by_cases h2:y.num<0
    ·have hy:(y.num.natAbs:Int) = -y.num:=by omega
     simp[h,h2,hx,hy,Int.neg_mul,Int.mul_neg]
    ·have hy:(y.num.natAbs:Int)=y.num:=by omega
     simp[h,h2,hx,hy,Int.neg_mul,Int.mul_neg]
  rw[e,← Rat.mul_def']
 ·cases h
noncomputable def ZRj:FuncId×Con:=(55,⟨[.leaf 4,.leaf 4],[.leaf 4],λp=>Zbc p.1 p.2⟩)
theorem Zkk:KQ ZRj:=Zl (ZF (C:=cf2 [(62,1),(64,4)] [ZSf,Zph,Zah]) .no Tryz.func55 [] (λv vals x z ha hz=>.trans (by kernel_rfl) (ZjA hz)) ⟨Zag,Zui,Znj,tr⟩)
noncomputable def ZQv (x:Rat) (y:Rat):Option (Rat×Int) :=
 bnd (ZAe y) λa =>
 ifb (a)
 (bnd (ZHa (0:Int)) λb =>
 some ((b,(3:Int))))
 (bnd (Z5b y) λc =>
 bnd (Zpa x.num.natAbs c) λd =>
 bnd (Z5b x) λe =>
 bnd (Zpa e y.num.natAbs) λf =>
 bnd (ZWa ((decide (x.num<0)) != (decide (y.num<0))) d f) λg =>
 some ((g,(0:Int))))
theorem ZXw {x y:Rat} {z:Rat×Int} (h:ZIi x y=some z):ZQv x y=some z:=by
 unfold ZIi at h;split at h
 ·rename_i hh;obtain⟨⟨a1,a2⟩,b1,b2⟩:=hh
  cases h
  unfold ZQv ZAe;rw[Za];by_cases h0:y=0
  ·subst h0;rfl
  ·rw[dFq h0,Ze,iN h0];unfold Z5b;have hn:=Z6k h0;have p1:=Zab x.num.natAbs y.den;have p3:=Zab x.den y.num.natAbs;have e1:Zpa x.num.natAbs y.den=some (x.num.natAbs*y.den):=by unfold Zpa;rw[iP ⟨ZGb (by omega),ZGb (by omega)⟩]
   have e3:Zpa x.den y.num.natAbs=some (x.den*y.num.natAbs):=by unfold Zpa;rw[iP ⟨ZGb (by omega),ZGb (by omega)⟩]
   rw[Za,e1,Za,Za,e3,Za];unfold ZWa;rw[iP ⟨ZFd (by omega),ZFd (by omega),Nat.mul_ne_zero x.den_nz (by omega)⟩,Za];have e:sgn ((decide (x.num<0)) != (decide (y.num<0))) (x.num.natAbs*y.den)=if y.num<0 then -(x.num*(y.den:Int)) else x.num*(y.den:Int):=by
    have eN:((x.num.natAbs*y.den:Nat):Int)=(x.num.natAbs:Int)*y.den:=by simp
    unfold sgn;rw[eN];by_cases h:x.num<0
    ·have hx:(x.num.natAbs:Int) = -x.num:=by omega
     by_cases h2:y.num<0 <;> simp[h,h2,hx,Int.neg_mul]
    ·have hx:(x.num.natAbs:Int)=x.num:=by omega
     by_cases h2:y.num<0 <;> simp[h,h2,hx,Int.neg_mul]
   rw[e,← ZRm h0]
 ·cases h
noncomputable def Zir:FuncId×Con:=(118,⟨[.leaf 4,.leaf 4],[.leaf 4,.int .i64],λp=>ZIi p.1 p.2⟩)
theorem rdiv_k:KQ Zir:=Zl (ZF (C:=cf2 [(62,1),(64,4)] [Zhf,Z1k,ZSf,Zph,Zah]) .no Tryz.func118 [] (λv vals x z ha hz=>.trans (by kernel_rfl) (ZXw hz)) ⟨ZEf,ZKp,Zag,Zui,Znj,tr⟩)
theorem rbyF_eq {x y z:Rat} (h:ZMd x y=some z):rby_m x y=some z:=by
 unfold ZMd at h;split at h
 ·rename_i hh
  cases h
  unfold rby_m ZIi;rw[iP hh,Za];split <;> rfl
 ·cases h
noncomputable def rby_q:FuncId×Con:=(74,⟨[.leaf 4,.leaf 4],[.leaf 4],λp=>ZMd p.1 p.2⟩)
theorem rby_k:KQ rby_q:=Zl (ZF (C:=cf2 [(62,1),(64,4)] [Zir]) .no Tryz.func74 [] (λv vals x z ha hz=>.trans (by kernel_rfl) (rbyF_eq hz)) ⟨rdiv_k,tr⟩)
noncomputable def Zbp:FuncId×Con:=(77,⟨[.leaf 4,.leaf 4],[.leaf 4,.leaf 4],λp=>Zaj p.1 p.2⟩)
theorem Zpq:KQ Zbp:=Zl (ZM (C:=cf0 [ZRj,Zhf,rby_q,Z5i] [] [] []) .no Tryz.func77 [] (λ_=>by kernel_rfl) ⟨Zkk,ZEf,rby_k,Zbm,tr⟩)
noncomputable def Zwu:FuncId×Con:=(73,⟨[.pair (.leaf 4) (.slice (.pair (.leaf 4) (.leaf 4))),.leaf 4],[.leaf 4,.leaf 4],λp=>Zrk p.1 p.2⟩)
theorem ZlA:KQ Zwu:=Zl (ZM (C:=cf0 [ZRj,Zhf,Z5i,Zbp] [] [] []) (.n (.n (.f (.n (.f (.l [2,3,4,5,6,7] [] [.s 8 (.dat (.int .i64)),.l (.sl 6) (.box 64 (.dat (.leaf 4))),.l (.sl 7) (.box 64 (.dat (.leaf 4)))] 0 [4,5,6,7] [] [.l (.sl 6) (.box 64 (.dat (.leaf 4))),.l (.sl 7) (.box 64 (.dat (.leaf 4)))] .no)))))) Tryz.func73 [] (λ_=>by kernel_rfl) ⟨Zkk,ZEf,Zbm,Zpq,tr⟩)
noncomputable def Zpo:FuncId×Con:=(75,⟨[.leaf 4],[.leaf 4],λp=>Z9f p⟩)
theorem ZPu:KQ Zpo:=Zl (ZM (C:=cf0 [ZBf,Zgn] [] [] []) .no Tryz.func75 [] (λ_=>by kernel_rfl) ⟨ZKg,Zst,tr⟩)
noncomputable def ZKt:FuncId×Con:=(38,⟨[.pair (.leaf 4) (.slice (.pair (.leaf 4) (.leaf 4))),.slice (.pair (.leaf 4) (.pair (.leaf 4) (.pair (.leaf 4) (.leaf 4))))],[.leaf 4],λp=>Zqj p.1 p.2⟩)
theorem Z1B:KQ ZKt:=Zl (ZM (C:=cf0 [ZKh,Zhf,ZMm,Zwu,rby_q,Zpo] [] [] []) (.n (.n (.f (.n (.f (.l [1,2,4,5] [] [.s 6 (.dat (.int .i64)),.l (.sl 5) (.box 64 (.dat (.leaf 4)))] 0 [4,5] [] [.l (.sl 5) (.box 64 (.dat (.leaf 4)))] (.f (.n (.f (.f (.n (.n (.n (.two (.n (.j [1,2,4,5,6,10] [] [.l (.sl 5) (.box 64 (.dat (.leaf 4)))] .no)) (.n (.j [1,2,4,5,6] [] [.l (.sl 5) (.box 64 (.dat (.leaf 4)))] .no)))))))))))))))) Tryz.func38 [] (λ_=>by kernel_rfl) ⟨ZFi,ZEf,ZTs,ZlA,rby_k,ZPu,tr⟩)
noncomputable def Zbr:FuncId×Con:=(39,⟨[.slice (.pair (.leaf 4) (.pair (.leaf 4) (.pair (.leaf 4) (.leaf 4)))),.slice (.leaf 4),.leaf 4,.slice (.pair (.leaf 4) (.leaf 4))],[.bool],λp=>ZWl p.1 p.2.1 p.2.2.1 p.2.2.2⟩)
theorem ZPx:KQ Zbr:=Zl (ZM (C:=cf0 [ZBf,ZKh,ZRj,Zhf,ZNm,Zpo,Z5i,Zbp] [] [] []) (.n (.n (.n (.two (.n (.f (.l [0,1,3,6,9,10,11] [] [.s 12 (.dat (.int .i64)),.l (.sl 9) (.box 64 (.dat (.leaf 4))),.l (.sl 10) (.box 64 (.dat (.leaf 4))),.l (.sl 11) (.box 64 (.dat (.leaf 4)))] 0 [0,1,3,6,9,10,11] [] [.l (.sl 9) (.box 64 (.dat (.leaf 4))),.l (.sl 10) (.box 64 (.dat (.leaf 4))),.l (.sl 11) (.box 64 (.dat (.leaf 4)))] .no))) (.two (.f (.j [0,1,3] [] [.s 91 (.dat .bool)] .no)) (.f (.n (.f (.cut ⟨⟨[0,1,3],[],[.s 15 (.dat (.int .i64))]⟩,[(.exit 2,⟨[],[],[]⟩),(.ret,⟨[],[],[.s 1000 (.dat .bool)]⟩)]⟩ (.f (.n (.f (.f (.n (.f (.n (.f (.l [0,1,3,15,16] [] [.s 17 (.dat (.int .i64)),.l (.sl 16) (.box 64 (.dat (.leaf 4)))] 4 [0,1,3,15,16] [] [.l (.sl 16) (.box 64 (.dat (.leaf 4)))] .no)))))))))))))))))) Tryz.func39 [] (λ_=>by kernel_rfl) ⟨ZKg,ZFi,Zkk,ZEf,ZAu,ZPu,Zbm,Zpq,tr⟩)
noncomputable def ZEv:FuncId×Con:=(13,⟨[.pair (.pair (.leaf 3) (.slice (.pair (.leaf 3) (.leaf 3)))) (.pair (.leaf 3) (.slice (.pair (.leaf 3) (.leaf 3)))),.slice (.pair (.leaf 4) (.pair (.leaf 4) (.pair (.leaf 4) (.leaf 4)))),.slice (.leaf 4)],[.bool],λp=>ZYk p.1 p.2.1 p.2.2⟩)
theorem ZJB:KQ ZEv:=Zl (ZM (C:=cf0 [Z7u,ZVu,ZFt,is1_q,ZKt,Zbr] [] [] []) (.n (.n (.two (.n (.f (.l [1,2,3,7,20,21] [] [.s 22 (.dat (.int .i64)),.l (.sl 7) (.box 101 (.agg (.cons (.dat (.leaf 4)) (.one (.own 103 (.pair (.leaf 4) (.leaf 4)))))))] 0 [1,2,3,7] [] [.l (.sl 7) (.box 101 (.agg (.cons (.dat (.leaf 4)) (.one (.own 103 (.pair (.leaf 4) (.leaf 4)))))))] .no))) (.n (.two (.n (.f (.l [1,2,3,7,42,43] [] [.s 10 (.own 106 (.pair (.leaf 4) (.leaf 4))),.s 44 (.dat (.int .i64))] 2 [1,2,3,7] [] [.s 10 (.own 106 (.pair (.leaf 4) (.leaf 4)))] .no))) (.f (.j [] [] [.s 6 (.dat .bool)] .no))))))) Tryz.func13 [] (λ_=>by kernel_rfl) ⟨ZyA,Zjy,Zly,is1_k,Z1B,ZPx,tr⟩)
noncomputable def Zjo:FuncId×Con:=(29,⟨[.slice (.pair (.leaf 3) (.pair (.leaf 3) (.pair (.leaf 3) (.leaf 3))))],[.int .i64],λp=>Zbj p⟩)
theorem Zds:KQ Zjo:=Zl (ZM (C:=cf0 [ZUc] [] [] []) (.n (.two (.f (.j [0] [] [.s 12 (.dat .bool)] .no)) (.f (.n (.cut ⟨⟨[],[],[]⟩,[(.norm,⟨[],[],[]⟩),(.ret,⟨[],[],[.s 1000 (.dat (.int .i64))]⟩)]⟩ (.f (.cut ⟨⟨[13,14],[],[.s 15 (.dat (.int .i64))]⟩,[(.ret,⟨[],[],[.s 1000 (.dat (.int .i64))]⟩),(.exit 0,⟨[],[],[]⟩)]⟩ (.f (.n (.n (.f (.f (.n (.f (.j [13,14,15] [] [.s 40 (.dat .bool)] .no))))))))))))))) Tryz.func29 [] (λ_=>by kernel_rfl) ⟨Zed,tr⟩)
noncomputable def Zwm:FuncId×Con:=(30,⟨[.slice (.leaf 3)],[.int .i64],λp=>Zcj p⟩)
theorem Znt:KQ Zwm:=Zl (ZM (C:=cf0 [ZOe,ZUc] [] [] []) (.n (.two (.f (.j [0] [] [.s 12 (.dat .bool)] .no)) (.f (.n (.cut ⟨⟨[],[],[]⟩,[(.norm,⟨[],[],[]⟩),(.ret,⟨[],[],[.s 1000 (.dat (.int .i64))]⟩)]⟩ (.f (.cut ⟨⟨[0,13,14],[],[.s 15 (.dat (.int .i64))]⟩,[(.ret,⟨[],[],[.s 1000 (.dat (.int .i64))]⟩),(.exit 0,⟨[],[],[]⟩)]⟩ (.f (.n (.n (.f (.f (.n (.n (.f (.j [0,13,14,15] [] [.s 34 (.dat .bool)] .no)))))))))))))))) Tryz.func30 [] (λ_=>by kernel_rfl) ⟨ZQf,Zed,tr⟩)
noncomputable def ZXm:FuncId×Con:=(47,⟨[.slice (.leaf 3)],[.int .i64],λp=>ZGg p⟩)
theorem ZMv:KQ ZXm:=Zl (ZM (C:=cf0 [ZUc] [] [] []) (.n (.two (.f (.j [0] [] [.s 12 (.dat .bool)] .no)) (.f (.n (.f (.cut ⟨⟨[13,14],[],[.s 15 (.dat (.int .i64))]⟩,[(.exit 0,⟨[],[],[]⟩),(.ret,⟨[],[],[.s 1000 (.dat (.int .i64))]⟩)]⟩ .no)))))) Tryz.func47 [] (λ_=>by kernel_rfl) ⟨Zed,tr⟩)
noncomputable def Zdt:FuncId×Con:=(43,⟨[.leaf 3],[.leaf 3],λp=>ZCl p⟩)
theorem rsize_k:KQ Zdt:=Zl (ZM (C:=cf0 [ZUc,Zff] [] [] []) .no Tryz.func43 [] (λ_=>by kernel_rfl) ⟨Zed,ZPf,tr⟩)
noncomputable def Zwt:FuncId×Con:=(46,⟨[.pair (.leaf 3) (.slice (.pair (.leaf 3) (.leaf 3))),.slice (.pair (.leaf 3) (.pair (.leaf 3) (.pair (.leaf 3) (.leaf 3))))],[.leaf 3],λp=>Zni p.1 p.2⟩)
theorem ZuA:KQ Zwt:=Zl (ZM (C:=cf0 [ZOe,Zdt,ZKf,Zzm,ZFg] [200038] [] []) (.n (.n (.f (.n (.f (.l [2,4,5,14,15] [] [.s 16 (.dat (.int .i64)),.l (.sl 5) (.box 38 (.dat (.leaf 3)))] 0 [4,5] [] [.l (.sl 5) (.box 38 (.dat (.leaf 3)))] (.f (.n (.n (.f (.f (.n (.n (.n (.f (.l [2,4,5,7,14,15,16,35] [] [.s 36 (.dat (.int .i64)),.l (.sl 5) (.box 38 (.dat (.leaf 3)))] 2 [2,4,5,14,15,16] [] [.l (.sl 5) (.box 38 (.dat (.leaf 3)))] (.f (.n (.n (.f (.f (.two (.j [2,4,5,7,14,15,16,35,36] [] [.s 11 (.box 38 (.dat (.leaf 3)))] .no) (.n (.n (.j [2,4,5,7,14,15,16,35,36] [] [.l (.sl 5) (.box 38 (.dat (.leaf 3)))] .no))))))))))))))))))))))))) Tryz.func46 [] (λ_=>by kernel_rfl) ⟨ZQf,rsize_k,Zsg,Zhr,Zlh,tr⟩)
noncomputable def Z9j:FuncId×Con:=(105,⟨[.slice (.slice (.leaf 3))],[.int .i64],λp=>Zfi p⟩)
theorem ZXn:KQ Z9j:=Zl (ZM (C:=cf0 [] [] [] []) .no Tryz.func105 [] (λ_=>by kernel_rfl))
noncomputable def Z9v:FuncId×Con:=(135,⟨[.slice (.slice (.leaf 3))],[.bool],λp=>ZWk p⟩)
theorem ZnB:KQ Z9v:=Zl (ZM (C:=cf0 [Z9j] [] [] []) (.n (.n (.f (.j [] [] [.s 2 (.dat .bool)] .no)))) Tryz.func135 [(159,Tryz.f159,.no),(160,Tryz.f160,.no),(176,Tryz.f176,.r [] [] [.s 1000 (.dat (.int .i64))] (.n (.f (.n (.f (.cut ⟨⟨[0,1,7],[],[.s 8 (.dat (.int .i64))]⟩,[(.exit 0,⟨[],[],[]⟩),(.ret,⟨[],[],[.s 1000 (.dat (.int .i64))]⟩)]⟩ .no))))))] (λ_=>by kernel_rfl) ⟨ZXn,tr⟩ tr tr ⟨⟨Tryz.func159,λ_ _=>by kernel_rfl⟩,⟨Tryz.func160,λ_ _=>by kernel_rfl⟩,⟨Tryz.func176,λ_ _=>by kernel_rfl⟩,tr⟩)
noncomputable def Zss:FuncId×Con:=(103,⟨[.slice (.slice (.leaf 3)),.slice (.leaf 3),.slice (.leaf 3)],[.bool],λp=>ZFk p.1 p.2.1 p.2.2⟩)
theorem ZpC:KQ Zss:=Zl (ZM (C:=cf0 [Z9j,Z9v] [] [] []) (.n (.f (.j [] [] [.s 6 (.dat .bool)] .no))) Tryz.func103 [] (λ_=>by kernel_rfl) ⟨ZXn,ZnB,tr⟩)
theorem ZHr : ∀ y w, (method (Tryz.prog.types.size + Made.depth) 38 y "Add").run Tryz.prog w = .ok (42, y) w := λ_ _ => by kernel_rfl
theorem Zuq : ∀ y w, (method (Tryz.prog.types.size + Made.depth) 38 y "Cmp").run Tryz.prog w = .ok (19, y) w := λ_ _ => by kernel_rfl
theorem Ztu : ∀ y w, (method (Tryz.prog.types.size + Made.depth) 38 y "Div").run Tryz.prog w = .ok (82, y) w := λ_ _ => by kernel_rfl
theorem ZYr : ∀ y w, (method (Tryz.prog.types.size + Made.depth) 38 y "Mul").run Tryz.prog w = .ok (18, y) w := λ_ _ => by kernel_rfl
theorem ZNh : ∀ y w, (method (Tryz.prog.types.size + Made.depth) 38 y "Neg").run Tryz.prog w = .ok (81, y) w := λ_ _ => by kernel_rfl
theorem ZwB : ∀ y w, (method (Tryz.prog.types.size + Made.depth) 38 y "Of").run Tryz.prog w = .ok (199, y) w := λ_ _ => by kernel_rfl
theorem ZDl : ∀ y w, (method (Tryz.prog.types.size + Made.depth) 38 y "Sign").run Tryz.prog w = .ok (45, y) w := λ_ _ => by kernel_rfl
theorem ZRr : ∀ y w, (method (Tryz.prog.types.size + Made.depth) 38 y "Sub").run Tryz.prog w = .ok (54, y) w := λ_ _ => by kernel_rfl
theorem Zbv : ∀ y w, (method (Tryz.prog.types.size + Made.depth) 38 y "Zero").run Tryz.prog w = .ok (17, y) w := λ_ _ => by kernel_rfl
noncomputable def Z5p:FuncId×Con:=(104,⟨[.slice (.leaf 3)],[.bool],λp=>Zll p⟩)
theorem ZXy : KQ Z5p := Zl (ZM (C := cf0 [ZUc] [] [] [((38, "Sign"), 45)]) .no Tryz.func104 [(136, Tryz.f136, .no), (137, Tryz.f137, .no), (161, Tryz.f161, .r [] [] [.s 1000 (.dat (.int .i64))] (.n (.f (.n (.f (.cut ⟨⟨[0, 1, 7], [], [.s 8 (.dat (.int .i64))]⟩, [(.exit 0, ⟨[], [], []⟩), (.ret, ⟨[], [], [.s 1000 (.dat (.int .i64))]⟩)]⟩ .no))))))] (λ_ => by kernel_rfl) ⟨Zed, tr⟩ tr ⟨ZDl, tr⟩ ⟨⟨Tryz.func136, λ_ _ => by kernel_rfl⟩, ⟨Tryz.func137, λ_ _ => by kernel_rfl⟩, ⟨Tryz.func161, λ_ _ => by kernel_rfl⟩, tr⟩)
theorem Zzq:Elem Tryz.prog 29 38 (ZW).n 56 (Value.agg #[Value.bool false,Value.slice none 0 0,Value.slice none 0 0]):=⟨Tryz.underlying29,by kernel_rfl,rfl,by decide⟩
noncomputable def ZTi:FuncId×ConO:=(106,⟨[.slice (.leaf 3)],38,.leaf 3,λp=>Zvc 56 p⟩)
theorem Zxo:ZHf Tryz.prog ZTi.1 ZTi.2:=λw v vals x z hv ha hz=>by
 obtain⟨cs,rfl,p0⟩:=ha
 have hz:Zvc 56 (show List Rat from x)=some z:=hz
 obtain⟨hb,rfl⟩:=Zgx hz
 obtain⟨q,n,c,rfl⟩:=ZIg (show (ZA ZW).rel v cs z from p0)
 refine⟨λ_ _=>by kernel_rfl,?_⟩
 have hn:n=(show List Rat from z).length:=by obtain⟨_,_,e,_⟩:=p0;cases e;rfl
 refine ZNl (K:=8) (args:=[.slice q n c]) hv Tryz.func106 rfl rfl zl λfa hS=>?_
 refine sr ?_
 refine mw hS rfl λfa hS=>?_
 refine oe ?_
 refine wp_seq_k λN1 hN1=>?_
 refine sr ?_
 refine mv hS rfl λfa hS=>?_
 refine ov hS rfl (Z1x hS Tryz.underlying29 rfl rfl) λfa hS=>?_
 refine oe ?_
 cases q with
 | none =>
  refine Zna hS rfl rfl ?_
  have hx:(show List Rat from z)=[]:=by
   obtain⟨q',c',e,_,_,h3⟩:=p0
   cases e
   rcases h3 with h3 | ⟨_,_,_,_,_,h4,_⟩
   ·exact h3
   ·cases h4
  have hx0:n=0:=by rw[hn,hx];rfl
  refine sr ?_;refine mw hS rfl λfa hS=>?_;refine oe ?_;refine wp_ret ?_;refine Z8b ?_;have hS2:=hS.nilLoc 38 (ZW).n;have:=Zsp (P:=Tryz.prog) (A:=ZW) hS2 (i:=0) (ob:=none) (n:=0) (cap:=0) (cs:=[]) rfl (Z0a (fn:=Tryz.f106) (r:=.tmp 2) rfl (ZP (t:=2) (y:=.slice (mkA none) 0 0) hS2 rfl)) (l:=([]:List Rat)) Zqf rfl;rw[hx];exact this
 | some ad =>
  refine Z4 hS rfl rfl ?_;refine wp_skip ?_;refine Zi (hN1 _ _ ?_);refine sr ?_;obtain⟨b,wo,hrun,hS⟩:=Zdz Zzq hS;refine Zsd wn rfl zl hrun hS λfa hS=>?_;refine mv hS rfl λfa hS=>?_;obtain⟨b',cap',cs2,wo,hr,hS',hrel⟩:=Zqg (ty:=29) (A:=ZW) Zzq hS (i:=0) rfl (Rep.mono (ZA ZW) hS.vst.le p0) (n':=n) (by omega) (by rw[hn];exact hb) (by decide);refine Zsd wn rfl zl (ZEe hS rfl rfl hr) hS' λfa hS=>?_;refine mw hS rfl λfa hS=>?_;refine oe ?_;refine wp_ret ?_;exact Zsp hS (i:=0) rfl (Z0a rfl (ZP hS rfl)) hrel hn
noncomputable def Zhu:FuncId×ConO:=(107,⟨[.slice (.leaf 3)],38,.leaf 3,λp=>Zvj p⟩)
theorem ZYx : KO Zhu := ZBq (C := cf0 [Zff] [] [] [((38, "Neg"), 81)]) (.n (.n (.f (.n (.f (.l [6, 7] [] [.s 3 (.own 38 (.leaf 3)), .s 8 (.dat (.int .i64))] 0 [] [] [.s 3 (.own 38 (.leaf 3))] .no)))))) Tryz.func107 [] (λ_ => by kernel_rfl) ⟨ZPf, tr⟩ tr ⟨ZNh, tr⟩
noncomputable def qOf_q:FuncId×Con:=(199,⟨[.leaf 3,.leaf 3],[.leaf 3],λp=>qOf_m p.1 p.2⟩)
theorem qOf_k:KQ qOf_q:=Zl (ZM (C:=cf0 [] [] [] []) .no Tryz.func199 [] (λ_=>by kernel_rfl))
noncomputable def ZLg:FuncId×Con:=(109,⟨[.int .i64],[.leaf 3],λp=>ZPb p⟩)
theorem Zji : KQ ZLg := Zl (ZM (C := cf0 [Z4h, qOf_q] [] [] [((38, "Of"), 199)]) .no Tryz.func109 [] (λ_ => by kernel_rfl) ⟨ZRi, qOf_k, tr⟩ tr ⟨ZwB, tr⟩)
noncomputable def ZYl (x:Int) (y:Int):Option (Int×Int) :=
 bnd (ZRc x y) λa =>
 some ((a.1,a.2))
theorem bmul_w {c:World} {a:Zb} (hv:VIn a c) {d:List Value} {x:Int} (i:Rep.rel (Zd .u64) a d x) {e:List Value} {y:Int} (j:Rep.rel (Zd .u64) a e y) {z:Int×Int} (H:ZYl x y=some z):Ret Tryz.prog 130 #[(Zd .u64).val d,(Zd .u64).val e] c a (λy v'=>∃ g b,y = .tuple #[(Zd .u64).val g,(Zd .u64).val b]∧(Zd .u64).rel v' g z.1∧(Zd .u64).rel v' b z.2):=by
 obtain⟨rfl,b⟩:=i;obtain⟨rfl,k⟩:=j;refine Z1b (K:=30) (args:=[.int .u64 x,.int .u64 y]) hv Tryz.func130 rfl rfl zl λf S=>?_;unfold ZYl at H;refine sr (mw S rfl λf S=>mw S rfl λf S=>oe (Zp λ_ l=>Z4 S rfl rfl (wp_skip (Zi (l _ _ (Zp λ_ m=>bO H λh n H=>ZD (mv S rfl λf S=>mv S rfl λf S=>opc S rfl (ZO S [.int .u64 x,.int .u64 y] Zdo rfl rfl) (ZWn S.vin (show Rep.rel (Zd .u64) _ [.int .u64 x] x from (ZJ b)) (show Rep.rel (Zd .u64) _ [.int .u64 y] y from (ZJ k)) n) ?_)))))));rintro _ s f w t ⟨u,v,rfl,o,p⟩ S;obtain⟨rfl,q⟩:=o;obtain⟨rfl,r⟩:=p;refine mv S rfl λf S=>ov S rfl (Zja S rfl rfl) λf S=>ov S rfl (Zja S rfl rfl) λf S=>mw S rfl λf S=>mw S rfl λf S=>Zz (Zi (m _ _ (sr (mv S rfl λf S=>mv S rfl λf S=>mw S rfl λf S=>mw S rfl λf S=>oe (wp_ret ?_)))));obtain rfl:=Zw H;refine Zva S (ZFc rfl (ZP S rfl) (ZP S rfl)) ⟨[.int .u64 (h.1)],[.int .u64 (h.2)],rfl,(ZJ q),(ZJ r)⟩
theorem ZVp:Elem Tryz.prog 29 38 (ZW).n 56 (Value.agg #[Value.bool false,Value.slice none 0 0,Value.slice none 0 0]):=⟨Tryz.underlying29,by kernel_rfl,rfl,by decide⟩
theorem Z3j:Z2b Tryz.prog 29 38 (ZW).n:=⟨λ_=>by kernel_rfl,λ_=>by kernel_rfl⟩
theorem ZSw:Tryz.prog.follows .mixedOrders=true:=by kernel_rfl
theorem ZhA:ZI Tryz.prog 130:=λ_ _=>by kernel_rfl
theorem ZPq:ZYj Tryz.prog 3 197 .i64 .u64:=λ_ _=>by kernel_rfl
theorem Z4A:ZYj Tryz.prog 197 3 .u64 .i64:=λ_ _=>by kernel_rfl
noncomputable def ZAh:FuncId×ConO:=(138,⟨[.slice (.leaf 3),.int .i64],38,.leaf 3,λp=>ZRd 56 p.1 p.2⟩)
theorem Ztl:ZHf Tryz.prog ZAh.1 ZAh.2:=λw v vals x z hv ha hz=>by
 obtain⟨cs,vs,rfl,p0,c1,rfl,rfl,hin⟩:=ha
 obtain⟨x1,k0⟩:=x
 have hz:ZRd 56 (show List Rat from x1) k0=some z:=hz
 obtain⟨y,hx1,hzr,hmk⟩:=Z3z hz
 have hx1:x1=[y]:=hx1
 subst hx1 hzr
 obtain⟨h0,_,hb1,hb2⟩:=Zke hmk
 obtain⟨k,rfl⟩:=oZ h0
 obtain⟨q,c,e,hc1,hc2,hne⟩:=(show (ZA ZW).rel v cs [y] from p0)
 subst e
 rcases hne with hne | ⟨b,off,cc,TT,fr,rfl,hvb,hrel⟩
 ·cases hne
 have hlen1:([y]:List Rat).length=1:=rfl
 rw[hlen1]at hrel
 obtain⟨c1,c2,e12,hrc,e2⟩:=hrel
 have e2:c2=[]:=e2
 subst e2
 rw[List.append_nil,Nat.one_mul]at e12
 have hl1:=Rep.len _ hrc
 have hAt:At v b off c1:=⟨cc,TT,fr,hvb,by rw[hl1];exact e12⟩
 refine⟨λ_ _=>by kernel_rfl,?_⟩
 have hk:((k:Int).toNat)=k:=tN k
 rw[hk]
 refine ZNl (K:=48) (args:=[.slice (some ⟨b,off,none⟩) 1 c,.int .i64 (k:Int)]) hv Tryz.func138 rfl rfl zl λfa hS=>?_
 refine sr ?_
 refine mw hS rfl λfa hS=>?_
 refine oe ?_
 refine wp_seq_k λN1 hN1=>?_
 refine sr ?_
 refine mv hS rfl λfa hS=>?_
 refine ov hS rfl (Zu hS rfl rfl Zhd) λfa hS=>?_
 refine oe ?_
 refine Z4 hS rfl (dFq (by omega)) ?_
 refine wp_skip ?_
 refine Zi (hN1 _ _ ?_)
 refine sr ?_
 refine mv hS rfl λfa hS=>?_
 refine ov hS rfl (Zjc hS rfl rfl Z3j) λfa hS=>?_
 refine ov hS rfl (ZOd hS rfl (ZPq _)) λfa hS=>?_
 refine mv hS rfl λfa hS=>?_
 refine ov hS rfl (ZOd hS rfl (ZPq _)) λfa hS=>?_
 have w1:IntKind.u64.wrap ((1:Nat):Int)=1:=by decide
 have w2:IntKind.u64.wrap (k:Int)=k:=ZId (Zdd.2 (by omega))
 rw[w1,w2]at hS
 have hmul:ZYl 1 (k:Int)=some (0,(k:Int)):=by
  unfold ZYl ZRc;rw[iP (by omega),Za];simp only;congr 2 <;> omega
 refine Zjj hS wn rfl zl (ZO hS [.int .u64 1,.int .u64 (k:Int)] ZhA rfl rfl) (bmul_w hS.vin (show Rep.rel (Zd .u64) _ [.int .u64 1] 1 from ZJ (by decide)) (show Rep.rel (Zd .u64) _ [.int .u64 (k:Int)] (k:Int) from ZJ (Zdd.2 (by omega))) hmul) ?_;rintro _ v1 fa wo hle ⟨r0,r1,rfl,⟨rfl,_⟩,⟨rfl,_⟩⟩ hS;refine mv hS rfl λfa hS=>?_;refine ov hS rfl (Zja hS rfl rfl) λfa hS=>?_;refine ov hS rfl (Zja hS rfl rfl) λfa hS=>?_;refine mw hS rfl λfa hS=>?_;refine mw hS rfl λfa hS=>?_;refine oe ?_;refine wp_seq_k λN2 hN2=>?_;refine sr ?_;refine mv hS rfl λfa hS=>?_;refine ov hS rfl (Zu hS rfl rfl Zmf) λfa hS=>?_;have g1:decide ((0:Int)<0)=false:=rfl;have hS:St _ _ _ ((22,Value.bool false) :: _) _ _ _ _:=hS;refine mv hS rfl λfa hS=>?_;refine op_v hS (ZYd hS rfl rfl rfl zl) rfl zl (ZK hS rfl) λfa hS=>?_;refine op_v hS (ZYd hS rfl rfl rfl zl) rfl zl (Zu hS rfl rfl Zmf) λfa hS=>?_;refine ov hS rfl (Zyc (b:=false) hS rfl rfl) λfa hS=>?_;refine oe ?_;refine Z4 hS rfl (dFq (by omega)) ?_;refine wp_skip ?_;refine Zi (hN2 _ _ ?_);refine sr ?_;refine mv hS rfl λfa hS=>?_;refine ov hS rfl (ZOd hS rfl (Z4A _)) λfa hS=>?_;have w3:IntKind.i64.wrap (k:Int)=k:=ZId (Zjb.2 (by omega));rw[w3]at hS;obtain⟨b2,wo,hrun,hS'⟩:=Zsn ZVp hS (l:=(k:Int)) (c:=(k:Int)) h0 (Int.le_refl _) hb1 hb2
 refine Zsd wn rfl zl (hrun rfl rfl) hS' λfa hS=>?_;refine mw hS rfl λfa hS=>?_;refine oe ?_;rw[hk]at hS;have hS:=hS.fr' (σ':=[(7,.slice (mkA (some b2)) k k),(0,.slice (some ⟨b,off,none⟩) 1 c)]) rfl;have src1:∀ {σ:List (Nat×Value)} {ℓ:List Loc} {v':Zb} {a:Act} {w':World},St 48 w v σ ℓ v' a w'→∀ j u,c1[j]? = some u→w'.cell? ((⟨b,off,none⟩:Addr).add j)=some u:=λhS j u hu=>by
  have:=(hS.view (At.mono hS.vst.le hAt)).cell hu
  rwa [Z3a]
 have hpl1:c1.all plain=true:=Rep.flat _ hrc;obtain⟨zc,hzc⟩:∃ zc:List Value,zc=(Value.agg #[Value.bool false,Value.slice none 0 0,Value.slice none 0 0]:Value).cells.toList:=⟨_,rfl⟩;have hzl:zc.length=(ZW).n:=by rw[hzc];rfl
 rw[← hzc]at hS
 let Inv:Nat→Act→World→Prop:=λj a w'=>∃ v',j≤k∧(0<k→0<j)∧St 48 w v [(8,.int .i64 (j:Int)),(7,.slice (mkA (some b2)) k k)] [.own (some b2) 38 (ZW).n k k ((List.replicate j c1).flatten++(List.replicate (k-j) zc).flatten)] v' a w'
 have rl:=λn=>ZIk hl1 n;have rpl:∀ n:Nat,((List.replicate n c1).flatten).all plain=true:=λn=>Z1z hpl1 n;have step:=λj m (hjm:j+m≤k)=>rp_step (k:=k) hl1 hzl hjm;refine sr ?_;refine mv hS rfl λfa hS=>?_;refine mv hS rfl λfa hS=>?_;have hS1:St 48 w v _ [.own (some b2) 38 (ZW).n k k ((List.replicate 0 c1).flatten++(List.replicate (k-0) zc).flatten)] v1 fa wo:=hS;obtain⟨wo2,hr,hS'⟩:=Zhv (t:=29) (sT:=29) ZVp hS1 (i:=0) rfl (p:=0) (k:=min 1 k) (c:=(List.replicate (min 1 k) c1).flatten) (rl _) (by omega) (rpl _) (ad:=⟨b,off,none⟩) (sLen:=1) (sCap:=c) (dLen:=k) (dCap:=k) (λj u hu=>by
  rcases Nat.lt_or_ge 0 k with hk0 | hk0
  ·rw[show min 1 k=1 by omega]at hu;simp only[List.replicate_one,List.flatten_cons,List.flatten_nil,List.append_nil]at hu;exact src1 hS1 j u hu
  ·rw[show min 1 k=0 by omega]at hu;simp at hu) rfl
 have hst:=step 0 (min 1 k) (by omega);simp only[List.set_cons_zero]at hS';rw[hst]at hS';simp only[Nat.zero_add]at hS';rw[Nat.zero_mul]at hr;refine Zsd wn rfl zl (ZXt hS1 rfl rfl (hr _)) hS' λfa hS=>?_;refine mw hS rfl λfa hS=>?_;refine oe ?_;have hS:=hS.fr' (σ':=[(8,.int .i64 ((min 1 k:Nat):Int)),(7,.slice (mkA (some b2)) k k)]) rfl;refine wp_seq_k λN3 hN3=>?_;refine wp_block ?_;refine wp_loop_fuel (λm a w'=>∃ j,k-j<m∧Inv j a w') (k+1) ⟨min 1 k,by omega,v1,by omega,by omega,hS⟩ (λa w' ⟨j,h,_⟩=>by omega) ?_;rintro m fa wo3 ⟨j,hjm,v3,hjk,hj0,hS⟩ N hN;refine wp_seq_k λN4 hN4=>?_;refine sr ?_;refine mv hS rfl λfa hS=>?_;refine mv hS rfl λfa hS=>?_;refine ov hS rfl (Zjc hS rfl rfl Z3j) λfa hS=>?_;refine ov hS rfl (Zu hS rfl rfl Zhd) λfa hS=>?_;refine oe ?_;by_cases hlt:j<k
 ·refine Zna hS rfl (dTq (by omega)) ?_;refine wp_skip ?_;refine Zi (hN4 _ _ ?_);refine wp_block ?_;have hS:=hS.fr' (σ':=[(8,.int .i64 (j:Int)),(7,.slice (mkA (some b2)) k k)]) rfl;refine Z6f (fl:=#[true,true,true,true,true,true,true,false,false,false]) ZSw (by kernel_rfl) hS ?_;intro ops hops hF wo hS;refine rf hops hF 0 rfl (by kernel_rfl) rfl hS (ZK hS rfl) λfa hS=>?_;refine rf hops hF 1 rfl (by kernel_rfl) rfl hS (ZK hS rfl) λfa hS=>?_;refine rf hops hF 2 rfl (by kernel_rfl) rfl hS (ZK hS rfl) λfa hS=>?_;refine rf hops hF 3 rfl (by kernel_rfl) rfl hS (ZAy hS Z3j rfl rfl (by omega) (by omega)) λfa hS=>?_;refine rf hops hF 4 rfl (by kernel_rfl) rfl hS (ZK hS rfl) λfa hS=>?_;refine rf hops hF 5 rfl (by kernel_rfl) rfl hS (ZK hS rfl) λfa hS=>?_;refine rf hops hF 6 rfl (by kernel_rfl) rfl hS (Zqp hS Z3j rfl rfl (by omega) (by omega)) λfa hS=>?_;rw[Nat.zero_add]at hS;obtain⟨wo',hr,hS'⟩:=Zhv (t:=29) (sT:=29) ZVp hS (i:=0) rfl (p:=j) (k:=min j (k-j)) (c:=(List.replicate (min j (k-j)) c1).flatten) (rl _) (by omega) (rpl _) (ad:=⟨b2,0,none⟩) (sLen:=j) (sCap:=k) (dLen:=k-j) (dCap:=k-j) (λi u hu=>by
   have hi:=(List.getElem?_eq_some_iff.1 hu).1;refine Zki hS (j:=0) rfl i u ?_;rw[ZLt (c:=c1) (m:=min j (k-j)) (n:=j) (by omega),aAq,List.getElem?_append_left hi];exact hu) rfl
  have hst:=step j (min j (k-j)) (by omega);simp only[List.set_cons_zero]at hS';rw[hst]at hS';refine ZRf hops hF 7 (by kernel_rfl) ?_;refine ZOm [3,6,1,2,4,5] [0] hops rfl (by kernel_rfl) wn rfl zl (ZXt hS rfl rfl (hr _)) hS' λfa hS=>?_;refine⟨(py hS rfl rfl (ZK hS rfl) Z8a),?_⟩;refine ZRf hops hF 8 (by kernel_rfl) ?_;have hadd:chk .i64 ((j:Int)+((min j (k-j):Nat):Int))=some ((j+min j (k-j):Nat):Int):=by rw[Zj (by omega) (by omega)];rfl
  refine nv [0,7,3,6,1,2,4,5] [] hops rfl (by kernel_rfl) rfl hS (Zu hS rfl rfl (ZZc hadd)) λfa hS=>?_;refine⟨Z8a,?_⟩;refine ZRf hops hF 9 (by kernel_rfl) ?_;refine nv [0,1,2,3,4,5,6,7,8] [] hops rfl (by kernel_rfl) rfl hS (Z2c hS rfl) λfa hS=>?_;refine⟨Z8a,?_⟩;refine Znk hops hF (by kernel_rfl) ?_;refine Z5c ?_;have hj0:=hj0 (by omega);exact Zi (hN _ _ ⟨j+min j (k-j),by omega,v3,by omega,λ_=>by omega,hS.fr' rfl⟩)
 refine Z4 hS rfl (dFq (by omega)) ?_;refine wp_exit ?_;refine Zqb ?_;refine Zqb ?_;refine ZVd ?_;refine Zi (hN3 _ _ ?_);have hjk:j=k:=by omega
 subst hjk;rw[Nat.sub_self,List.replicate_zero,List.flatten_nil,List.append_nil]at hS;refine sr ?_;refine mv hS rfl λfa hS=>?_;refine mw hS rfl λfa hS=>?_;refine oe ?_;refine wp_ret ?_;exact Zsp hS (i:=0) rfl (Z0a rfl (ZP hS rfl)) (Zbh (Rep.mono _ hS.vst.le hrc) _) (List.length_replicate (n:=j) (a:=y)).symm
noncomputable def ZKl:FuncId×ConO:=(108,⟨[.int .i64],38,.leaf 3,λp=>Zsh p⟩)
theorem ZYm:KO ZKl:=ZBq (C:=cf0 [ZLg] [] [ZAh] []) .no Tryz.func108 [] (λ_=>by kernel_rfl) ⟨Zji,tr⟩ ⟨Ztl,tr⟩
noncomputable def ZDv:FuncId×Con:=(142,⟨[.ptr (.pair (.slice (.slice (.leaf 3))) (.pair (.slice (.leaf 3)) (.pair (.slice (.leaf 3)) (.pair (.leaf 3) (.pair (.slice (.int .i64)) (.slice (.int .i64))))))),.int .i64],[.slice (.leaf 3)],λp=>ZQj p.1 p.2⟩)
theorem Zyz:KQ ZDv:=Zl (ZM (C:=cf0 [] [] [ZKl] []) (.n (.n (.f (.n (.f (.l [0,1,5,13,14] [] [.s 15 (.dat (.int .i64)),.l (.sl 5) (.own 38 (.leaf 3))] 0 [5] [] [.l (.sl 5) (.own 38 (.leaf 3))] (.f (.n (.n (.f (.f (.n (.n (.j [0,1,5,13,14,15] [] [.l (.sl 5) (.own 38 (.leaf 3))] .no)))))))))))))) Tryz.func142 [] (λ_=>by kernel_rfl) tr ⟨ZYm,tr⟩)
noncomputable def ZJv:FuncId×Con:=(143,⟨[.ptr (.pair (.slice (.slice (.leaf 3))) (.pair (.slice (.leaf 3)) (.pair (.slice (.leaf 3)) (.pair (.leaf 3) (.pair (.slice (.int .i64)) (.slice (.int .i64))))))),.int .i64,.int .i64],[.slice (.leaf 3)],λp=>ZOk p.1 p.2.1 p.2.2⟩)
theorem ZgA : KQ ZJv := Zl (ZM (C := cf0 [Zff] [] [ZKl] [((38, "Neg"), 81)]) (.n (.n (.f (.n (.f (.l [0, 1, 2, 7, 15, 16] [] [.s 17 (.dat (.int .i64)), .l (.sl 7) (.own 38 (.leaf 3))] 0 [7] [] [.l (.sl 7) (.own 38 (.leaf 3))] (.f (.n (.n (.f (.f (.n (.two (.j [0, 1, 2, 7, 8, 9, 15, 16, 17] [] [.s 31 (.dat .bool)] .no) (.j [0, 1, 2, 7, 15, 16, 17] [] [.l (.sl 7) (.own 38 (.leaf 3))] .no)))))))))))))) Tryz.func143 [] (λ_ => by kernel_rfl) ⟨ZPf, tr⟩ ⟨ZYm, tr⟩ ⟨ZNh, tr⟩)
noncomputable def Zsr:FuncId×ConM:=(162,⟨[.slice (.slice (.leaf 3))],29,38,.leaf 3,λp=>Zml p⟩)
theorem ZPw:KW Zsr:=conm_z (C:=cf0 [] [8] [ZTi] []) (.n (.n (.f (.n (.f (.l [3,9,10] [] [.s 11 (.dat (.int .i64)),.l (.sl 3) (.mat 29 38 (.leaf 3))] 0 [3] [] [.l (.sl 3) (.mat 29 38 (.leaf 3))] .no)))))) Tryz.func162 [] (λ_=>by kernel_rfl) tr ⟨Zxo,tr⟩
noncomputable def ZNo:FuncId×ConB:=(163,⟨222,(.agg (.cons (.mat 29 38 (.leaf 3)) (.cons (.own 38 (.leaf 3)) (.cons (.own 38 (.leaf 3)) (.cons (.dat (.leaf 3)) (.cons (.own 3 (.int .i64)) (.one (.own 3 (.int .i64))))))))),[.int .i64,.int .i64],[],λz x=>Zpf z x.1 x.2⟩)
theorem ZNv : KB ZNo := Z2g (C := cf0 [Zri, ZEg, ZSg, ZKf, Zff, ZFg, ZLg] [] [] [((38, "Add"), 42), ((38, "Div"), 82), ((38, "Mul"), 18), ((38, "Neg"), 81), ((38, "Sub"), 54), ((38, "Zero"), 17)]) (.n (.n (.two (.n (.f (.l [0, 1, 2, 7, 37] [] [.s 38 (.dat (.int .i64)), .l (.sl 20) (.mat 29 38 (.leaf 3))] 0 [0, 1, 2, 7] [] [.l (.sl 20) (.mat 29 38 (.leaf 3))] .no))) (.n (.n (.f (.n (.f (.l [0, 1, 2, 94] [] [.s 95 (.dat (.int .i64)), .l (.sl 67) (.mat 29 38 (.leaf 3)), .l (.sl 77) (.own 38 (.leaf 3))] 2 [0, 1, 2] [] [.l (.sl 67) (.mat 29 38 (.leaf 3)), .l (.sl 77) (.own 38 (.leaf 3))] (.f (.n (.n (.f (.j [0, 1, 2, 94, 95] [] [.l (.fld (.sl 0) 0) (.mat 29 38 (.leaf 3)), .l (.fld (.sl 0) 1) (.own 38 (.leaf 3))] (.f (.n (.f (.f (.j [0, 1, 2, 10, 94, 95] [] [.s 114 (.dat .bool)] .no))))))))))))))))))) Tryz.func163 [(177, Tryz.f177, .sel 1 (.n (.f (.n (.f (.l [0, 1, 2, 3, 8, 15] [] [.s 16 (.dat (.int .i64)), .l (.fld (.sl 0) 0) (.agg (.mat 29 38 (.leaf 3)))] 0 [0, 1, 2, 3, 8] [] [.l (.fld (.sl 0) 0) (.agg (.mat 29 38 (.leaf 3)))] .no))))) (.n (.f (.n (.f (.l [0, 1, 2, 3, 8, 15] [] [.s 16 (.dat (.int .i64)), .l (.sl 1) (.own 38 (.leaf 3))] 0 [0, 1, 2, 3, 8] [] [.l (.sl 1) (.own 38 (.leaf 3))] .no))))))] (λ_ _ => by kernel_rfl) ⟨ZQl, Z6g, Zrh, Zsg, ZPf, Zlh, Zji, tr⟩ tr ⟨ZHr, Ztu, ZYr, ZNh, ZRr, Zbv, tr⟩ ⟨⟨Tryz.func177, λ_ _ => by kernel_rfl⟩, tr⟩
noncomputable def ZWq:FuncId×ConB:=(168,⟨222,(.agg (.cons (.mat 29 38 (.leaf 3)) (.cons (.own 38 (.leaf 3)) (.cons (.own 38 (.leaf 3)) (.cons (.dat (.leaf 3)) (.cons (.own 3 (.int .i64)) (.one (.own 3 (.int .i64))))))))),[],[.int .i64],λz x=>Z1h z⟩)
theorem ZEx : KB ZWq := Z2g (C := cf0 [ZUc] [] [] [((38, "Sign"), 45)]) (.n (.n (.f (.n (.f (.l [0, 9, 10] [] [.s 3 (.dat (.int .i64)), .s 11 (.dat (.int .i64))] 0 [] [] [.s 3 (.dat (.int .i64))] (.f (.n (.n (.f (.f (.n (.two (.j [0, 3, 4, 9, 10, 11] [] [.s 40 (.dat .bool)] .no) (.j [0, 9, 10, 11] [] [.s 3 (.dat (.int .i64))] .no)))))))))))))) Tryz.func168 [] (λ_ _ => by kernel_rfl) ⟨Zed, tr⟩ tr ⟨ZDl, tr⟩
noncomputable def ZPs:FuncId×ConB:=(169,⟨222,(.agg (.cons (.mat 29 38 (.leaf 3)) (.cons (.own 38 (.leaf 3)) (.cons (.own 38 (.leaf 3)) (.cons (.dat (.leaf 3)) (.cons (.own 3 (.int .i64)) (.one (.own 3 (.int .i64))))))))),[.int .i64,.int .i64],[.int .i64],λz x=>ZBh z x.1 x.2⟩)
theorem Z0A : KB ZPs := Z2g (C := cf0 [ZOe, ZUc, ZFg] [] [] [((38, "Cmp"), 19), ((38, "Div"), 82), ((38, "Sign"), 45)]) (.n (.n (.n (.f (.n (.f (.l [0, 1, 2, 8, 17] [] [.s 7 (.dat (.int .i64)), .s 18 (.dat (.int .i64)), .l (.sl 8) (.box 38 (.dat (.leaf 3)))] 0 [] [] [.s 7 (.dat (.int .i64))] (.f (.n (.n (.f (.j [0, 1, 2, 8, 17, 18] [] [.s 7 (.dat (.int .i64)), .l (.sl 8) (.box 38 (.dat (.leaf 3)))] (.f (.n (.n (.n (.n (.two (.n (.j [0, 1, 2, 7, 8, 9, 10, 17, 18] [] [.s 12 (.dat (.int .i64))] .no)) (.two (.j [0, 1, 2, 7, 8, 9, 10, 17, 18] [] [.s 110 (.dat .bool)] .no) (.j [0, 1, 2, 8, 17, 18] [] [.s 7 (.dat (.int .i64)), .l (.sl 8) (.box 38 (.dat (.leaf 3)))] .no)))))))))))))))))))) Tryz.func169 [] (λ_ _ => by kernel_rfl) ⟨ZQf, Zed, Zlh, tr⟩ tr ⟨Zuq, Ztu, ZDl, tr⟩
noncomputable def ZOo:FuncId×ConB:=(141,⟨222,(.agg (.cons (.mat 29 38 (.leaf 3)) (.cons (.own 38 (.leaf 3)) (.cons (.own 38 (.leaf 3)) (.cons (.dat (.leaf 3)) (.cons (.own 3 (.int .i64)) (.one (.own 3 (.int .i64))))))))),[.int .i64],[.int .i64],λz x=>Zij z x⟩)
theorem Zbs:KB ZOo:=Z2g (C:=cf1 [] [] [] [] [] [ZNo,ZWq,ZPs] []) (.n (.f (.cut ⟨⟨[0,1],[.fld (.sl 0) 0,.fld (.sl 0) 1,.fld (.sl 0) 2,.fld (.sl 0) 6,.fld (.sl 0) 7],[.l (.sl 0) (.box 222 (.agg (.cons (.mat 29 38 (.leaf 3)) (.cons (.own 38 (.leaf 3)) (.cons (.own 38 (.leaf 3)) (.cons (.dat (.leaf 3)) (.cons (.own 3 (.int .i64)) (.one (.own 3 (.int .i64))))))))))]⟩,[(.ret,⟨[],[.fld (.sl 0) 0,.fld (.sl 0) 1,.fld (.sl 0) 2,.fld (.sl 0) 6,.fld (.sl 0) 7],[.s 1000 (.dat (.int .i64)),.l (.sl 0) (.box 222 (.agg (.cons (.mat 29 38 (.leaf 3)) (.cons (.own 38 (.leaf 3)) (.cons (.own 38 (.leaf 3)) (.cons (.dat (.leaf 3)) (.cons (.own 3 (.int .i64)) (.one (.own 3 (.int .i64))))))))))]⟩)]⟩ .no))) Tryz.func141 [] (λ_ _=>by kernel_rfl) tr tr tr tr tr ⟨ZNv,ZEx,Z0A,tr⟩
noncomputable def Z0u:FuncId×ConB:=(143,⟨222,(.agg (.cons (.mat 29 38 (.leaf 3)) (.cons (.own 38 (.leaf 3)) (.cons (.own 38 (.leaf 3)) (.cons (.dat (.leaf 3)) (.cons (.own 3 (.int .i64)) (.one (.own 3 (.int .i64))))))))),[.int .i64,.int .i64],[.slice (.leaf 3)],λz x=>Zwk z x.1 x.2⟩)
theorem ZFy : KB Z0u := Z2g (C := cf0 [Zff, ZLg] [] [ZAh] [((38, "Neg"), 81)]) (.n (.n (.f (.n (.f (.l [0, 1, 2, 7, 15, 16] [] [.s 17 (.dat (.int .i64)), .l (.sl 7) (.own 38 (.leaf 3))] 0 [7] [] [.l (.sl 7) (.own 38 (.leaf 3))] (.f (.n (.n (.f (.f (.n (.two (.j [0, 1, 2, 7, 8, 9, 15, 16, 17] [] [.s 31 (.dat .bool)] .no) (.j [0, 1, 2, 7, 15, 16, 17] [] [.l (.sl 7) (.own 38 (.leaf 3))] .no)))))))))))))) Tryz.func143 [(108, Tryz.f108, .no)] (λ_ _ => by kernel_rfl) ⟨ZPf, Zji, tr⟩ ⟨Ztl, tr⟩ ⟨ZNh, tr⟩ ⟨⟨Tryz.func108, λ_ _ => by kernel_rfl⟩, tr⟩
end Go.Eng
