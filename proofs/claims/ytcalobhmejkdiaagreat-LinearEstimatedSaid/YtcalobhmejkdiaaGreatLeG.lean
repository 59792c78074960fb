/- Lemmas towards the statement: the engine of the walks, the functions' models, laws and walks, part 7. Conditions: as each states. -/
import Derived.Test.YtcalobhmejkdiaaGreatProg
import Derived.Test.YtcalobhmejkdiaaGreatLeF
set_option linter.all false
set_option maxRecDepth 100000
set_option maxRecDepth 100000
set_option maxHeartbeats 4000000
namespace Go.Eng
open Go.Proofs Go.RowKit
noncomputable def Zth:FuncId×Con:=(80,⟨[.pair (.slice (.slice (.leaf 3))) (.pair (.slice (.leaf 3)) (.slice (.leaf 3)))],[.int .i64],fun p=>Ztl p⟩)
theorem Zat (p:(List (List Rat))×(List Rat)×(List Rat)):Zm ⟨Tryz.prog,[(39,0),(41,2),(43,3),(91,1),(93,4)],[],[],[],[],[],[]⟩ [(93,Tryz.f93,.no),(121,Tryz.f121,.no),(137,Tryz.f137,.cut ⟨⟨[],[],[]⟩,[(.ret,⟨[],[],[.s 1000 (.dat (.int .i64))]⟩)]⟩ (.two .no (.two (.two .no (.two (.cut ⟨⟨[0,1,7],[],[.s 8 (.dat (.int .i64))]⟩,[(.exit 0,⟨[],[],[]⟩),(.ret,⟨[],[],[.s 1000 (.dat (.int .i64))]⟩)]⟩ .no) .no)) .no)))] Tryz.f80 (.two .no (.two (.two (.cut ⟨⟨[],[],[]⟩,[(.norm,⟨[],[],[.s 27 (.dat .bool)]⟩)]⟩ .no) .no) .no)) [.pair (.slice (.slice (.leaf 3))) (.pair (.slice (.leaf 3)) (.slice (.leaf 3)))] [.int .i64] (p)=Ztl p:=by kernel_rfl
theorem ZWr:Zl Tryz.prog Zth.1 Zth.2:=Zp (C:=⟨Tryz.prog,[(39,0),(41,2),(43,3),(91,1),(93,4)],[],[],[],[],[],[]⟩) trivial trivial trivial trivial (inl:=[(93,Tryz.f93,.no),(121,Tryz.f121,.no),(137,Tryz.f137,.cut ⟨⟨[],[],[]⟩,[(.ret,⟨[],[],[.s 1000 (.dat (.int .i64))]⟩)]⟩ (.two .no (.two (.two .no (.two (.cut ⟨⟨[0,1,7],[],[.s 8 (.dat (.int .i64))]⟩,[(.exit 0,⟨[],[],[]⟩),(.ret,⟨[],[],[.s 1000 (.dat (.int .i64))]⟩)]⟩ .no) .no)) .no)))]) ⟨⟨Tryz.func93,fun _ _=>by kernel_rfl⟩,⟨Tryz.func121,fun _ _=>by kernel_rfl⟩,⟨Tryz.func137,fun _ _=>by kernel_rfl⟩,trivial⟩ (ann:=(.two .no (.two (.two (.cut ⟨⟨[],[],[]⟩,[(.norm,⟨[],[],[.s 27 (.dat .bool)]⟩)]⟩ .no) .no) .no))) Tryz.func80 (fun _ _=>by kernel_rfl) rfl (fun v vals x z ha hz=>(Zat x).trans hz)
end Go.Eng
set_option maxRecDepth 100000
set_option maxHeartbeats 4000000
namespace Go.Eng
open Go.Proofs Go.RowKit
noncomputable def ZTj:FuncId×Con:=(118,⟨[.leaf 2],[.int .i64],fun p=>ZJh p⟩)
theorem isign_i (x:Int):Zm ⟨Tryz.prog,[(39,0),(41,2),(43,3)],[],[],[],[],[],[]⟩ [] Tryz.f118 .no [.leaf 2] [.int .i64] (x)=Zao x:=by kernel_rfl
theorem isign_k:Zl Tryz.prog ZTj.1 ZTj.2:=Zp (C:=⟨Tryz.prog,[(39,0),(41,2),(43,3)],[],[],[],[],[],[]⟩) trivial trivial trivial trivial (inl:=[]) trivial (ann:=.no) Tryz.func118 (fun _ _=>by kernel_rfl) rfl fun v vals x z ha hz=>(isign_i x).trans (ZDu hz)
end Go.Eng
set_option maxRecDepth 100000
set_option maxHeartbeats 4000000
namespace Go.Eng
open Go.Proofs Go.RowKit
noncomputable def ZVd:FuncId×Con:=(72,⟨[.leaf 3],[.int .i64],fun p=>Z1c p⟩)
theorem qsign_i (x:Rat):Zm ⟨Tryz.prog,[(39,0),(41,2),(43,3)],[ZTj],[],[],[],[],[]⟩ [] Tryz.f72 .no [.leaf 3] [.int .i64] (x)=Zhn x:=by kernel_rfl
theorem ZJl:Zl Tryz.prog ZVd.1 ZVd.2:=Zp (C:=⟨Tryz.prog,[(39,0),(41,2),(43,3)],[ZTj],[],[],[],[],[]⟩) ⟨isign_k,trivial⟩ trivial trivial trivial (inl:=[]) trivial (ann:=.no) Tryz.func72 (fun _ _=>by kernel_rfl) rfl fun v vals x z ha hz=>(qsign_i x).trans (Z3t hz)
end Go.Eng
set_option maxRecDepth 100000
set_option maxHeartbeats 4000000
namespace Go.Eng
open Go.Proofs Go.RowKit
noncomputable def Zuh:FuncId×Con:=(31,⟨[.leaf 3,.leaf 3],[.int .i64],fun p=>Z4g p.1 p.2⟩)
theorem qcmp_i (x:Rat) (y:Rat):Zm ⟨Tryz.prog,[(39,0),(41,2),(43,3)],[Zdf,ZVd],[],[],[],[],[]⟩ [] Tryz.f31 .no [.leaf 3,.leaf 3] [.int .i64] (x,y)=ZIn x y:=by kernel_rfl
theorem ZJq:Zl Tryz.prog Zuh.1 Zuh.2:=Zp (C:=⟨Tryz.prog,[(39,0),(41,2),(43,3)],[Zdf,ZVd],[],[],[],[],[]⟩) ⟨Z2n,ZJl,trivial⟩ trivial trivial trivial (inl:=[]) trivial (ann:=.no) Tryz.func31 (fun _ _=>by kernel_rfl) rfl fun v vals x z ha hz=>(qcmp_i x.1 x.2).trans (Z1t hz)
end Go.Eng
namespace Go.Eng
open Go.RowKit
def endO (ty:TypeId) (t:T) (c:V) (l:Lo):Option (List t.den):=match c with
 | .cons (.own u) .nl=>match lkE l u with
  | some ⟨_,_,.own ty' t' xs false⟩=>match Nat.beq ty' ty with
   | true=>Zic t' t xs
   | false=>none
  | _=>none
 | _=>none
def Zii (C:Cf) (inl:Inl) (fn:Func) (ann:Ann) (ats:List T) (ty:TypeId) (t:T) (x:Zca ats):Option (List t.den):=match fn.body with
 | some c=>ZUb C (Zvg C inl 20) fn.results.toList 0 fn.ntmps c _ ann (Z6b 0 0 (Z6d ats x)) [] 1 ⟨fun _ _ _=>none,fun _ _ _ _=>none,fun c l _=>endO ty t c l⟩
 | none=>none
theorem Zvw {C:Cf} (hC:CfOK C) {inl:Inl} (hinl:ZMc C inl) {f:FuncId} {fn:Func} {ann:Ann} {ats:List T} {ty:TypeId} {t:T} {x:Zca ats} {z:List t.den} (hf:C.P.funcs[f]? = some fn) (hl:Nat.ble ats.length fn.ntmps=true) (h:Zii C inl fn ann ats ty t x=some z)
  {w:World} {v:Zb} {vals:List Value} (hv:VIn v w) (ha:ZAb v ats vals x):RetO C.P f vals.toArray w v fun y v' w'=>OwnR t.rep ty t.n z w y v' w':=by
 unfold Zii at h;split at h
 ·rename_i c hc;obtain ⟨h1,h2,h3⟩:=Znj (γ:=fun _=>.box 0) (l:=[]) (U:=(· < 0)) ha;have hK:vals.length≤fn.ntmps:=by rw [h3];exact Nat.le_of_ble_eq_true hl
  refine ZCl hv hf hc rfl hK fun a hS=>?_;have hr:RelX fn.ntmps (fun _ _=>False) w v (· < 1) (· < 1) (Z6b 0 0 (Z6d ats x)) [] a w (fun _=>.box 0) v []:=by
   refine ⟨⟨hS.size,hS.dfr,fun t x h=>(by cases h),hS.ext,hS.vst,hS.loc,hS.nd⟩,fun t e he=>?_,⟨[],trivial,List.Perm.refl _⟩,List.nodup_nil,fun t e he=>?_,fun e he=>(by cases he),fun x y h=>h.elim⟩
   ·obtain ⟨y,q1,q2,q3,q4,q5⟩:=ZTc h1 h2 he;have:=hS.fr t y ?_
    ·rw [this];exact q3
    ·have q2:vals[t-0]? = some y:=q2;have:=ZNk (k:=0) (t:=t) (y:=y) (by simpa using q2)
     rwa [Nat.zero_add] at this
   ·obtain ⟨y,q1,q2,q3,q4,q5⟩:=ZTc h1 h2 he;exact ⟨V.ok.mono (fun k h=>absurd h (Nat.not_lt_zero k)) q4,by show e.st<1;omega⟩
  refine ZRk hC (Zbo hC hinl 20) c h ⟨_,_,_,hr⟩ ⟨fun f' l' n' a' w' hp hn' ho' hr'=>(by cases hp),fun i f' l' n' a' w' hp hn' ho' hr'=>(by cases hp),fun c l' n' a' w' hp hn' ho' hr'=>?_⟩;obtain ⟨γ',v',ℓ',vals',hr',hc',hk',hres⟩:=hr';have hp:endO ty t c l'=some z:=hp;unfold endO at hp;split at hp
  ·rename_i u;split at hp
   ·rename_i kk st ty' t' xs he;split at hp
    ·rename_i hty;have hty:=Nat.eq_of_beq_eq_true hty;subst hty;obtain ⟨e1,e2⟩:=Z7 hp
     cases e1;cases e2
     obtain ⟨c1,xs1,rfl,⟨y,rfl,_,hy⟩,hx1⟩:=hc';have hx1:xs1=[]:=hx1;subst hx1;obtain ⟨ob,cap,g1,rfl⟩:=hy _ he;obtain ⟨hkk,es,hes,hmem⟩:=hr'.loc he;have hkk:kk=_:=hkk;subst hkk;obtain ⟨ob',cap',cs,q1,q2,rfl⟩:=hes;have q1:γ' kk = .own ob' cap':=q1;rw [g1] at q1;cases q1;obtain ⟨jj,hj⟩:=hmem _ List.mem_cons_self;obtain ⟨hh,hb⟩:=hr'.st.loc _ (List.mem_of_getElem? hj);refine ⟨hr'.st.dfr,_,Zui hres,_,v',rfl,hr'.st.ext.ext,hr'.st.vst.ext,ob,_,cap,cs,rfl,hh,fun b e=>?_,q2,rfl⟩;obtain ⟨h1,h2⟩:=hb b e;rcases h1 with h1 | h1
     ·exact ⟨h1,h2⟩
     ·cases h1
    ·cases hp
   ·cases hp
  ·cases hp
 ·cases h
theorem ZYq {C:Cf} (hc:CL C.P C.cons) (ho:OL C.P C.owns) (hi:IL C.P C.ins) (hm:ML C.P C.meths) {inl:Inl} (hn:NL C.P inl) {f:FuncId} {fn:Func} {ann:Ann} {con:ConO} (hf:C.P.funcs[f]? = some fn) (hen:Z4 C.P f) (hl:Nat.ble con.args.length fn.ntmps=true)
  (h:∀ x z,con.F x=some z→Zii C inl fn ann con.args con.ty con.t x=some z) (hq:QL C.P C.omats:=by exact trivial):ZHe C.P f con :=
 fun _ _ _ x z hv ha hz=>⟨hen,Zvw (CfOK.of hc ho hi hm hq) (ZMc.of hn) hf hl (h x z hz) hv ha⟩
def endM (ty ty2:TypeId) (t:T) (c:V) (l:Lo):Option (List (List t.den)):=match c with
 | .cons (.own u) .nl=>match lkE l u with
  | some ⟨_,_,.mat ty' ty2' t' m _⟩=>match Nat.beq ty' ty,Nat.beq ty2' ty2 with
   | true,true=>Zmb t' t m
   | _,_=>none
  | _=>none
 | _=>none
def Zll (C:Cf) (inl:Inl) (fn:Func) (ann:Ann) (ats:List T) (ty ty2:TypeId) (t:T) (x:Zca ats):Option (List (List t.den)):=match fn.body with
 | some c=>ZUb C (Zvg C inl 20) fn.results.toList 0 fn.ntmps c _ ann (Z6b 0 0 (Z6d ats x)) [] 1 ⟨fun _ _ _=>none,fun _ _ _ _=>none,fun c l _=>endM ty ty2 t c l⟩
 | none=>none
theorem Z1u {ℓ es:List Loc} {E:List Loc} (h:(ℓ.filterMap Loc.blk).Nodup) (hp:ℓ.Perm (es++E)):(es.filterMap Loc.blk).Nodup:=by
 have h1:=(hp.filterMap Loc.blk).nodup_iff.1 h;rw [List.filterMap_append] at h1;exact (List.nodup_append.1 h1).1
theorem Z2s {C:Cf} (hC:CfOK C) {inl:Inl} (hinl:ZMc C inl) {f:FuncId} {fn:Func} {ann:Ann} {ats:List T} {ty ty2:TypeId} {t:T} {x:Zca ats} {z:List (List t.den)} (hf:C.P.funcs[f]? = some fn) (hl:Nat.ble ats.length fn.ntmps=true) (h:Zll C inl fn ann ats ty ty2 t x=some z)
  {w:World} {v:Zb} {vals:List Value} (hv:VIn v w) (ha:ZAb v ats vals x):RetO C.P f vals.toArray w v (OwnM ty ty2 t z w):=by
 unfold Zll at h;split at h
 ·rename_i c hc;obtain ⟨h1,h2,h3⟩:=Znj (γ:=fun _=>.box 0) (l:=[]) (U:=(· < 0)) ha;have hK:vals.length≤fn.ntmps:=by rw [h3];exact Nat.le_of_ble_eq_true hl
  refine ZCl hv hf hc rfl hK fun a hS=>?_;have hr:RelX fn.ntmps (fun _ _=>False) w v (· < 1) (· < 1) (Z6b 0 0 (Z6d ats x)) [] a w (fun _=>.box 0) v []:=by
   refine ⟨⟨hS.size,hS.dfr,fun t x h=>(by cases h),hS.ext,hS.vst,hS.loc,hS.nd⟩,fun t e he=>?_,⟨[],trivial,List.Perm.refl _⟩,List.nodup_nil,fun t e he=>?_,fun e he=>(by cases he),fun x y h=>h.elim⟩
   ·obtain ⟨y,q1,q2,q3,q4,q5⟩:=ZTc h1 h2 he;have:=hS.fr t y ?_
    ·rw [this];exact q3
    ·have q2:vals[t-0]? = some y:=q2;have:=ZNk (k:=0) (t:=t) (y:=y) (by simpa using q2)
     rwa [Nat.zero_add] at this
   ·obtain ⟨y,q1,q2,q3,q4,q5⟩:=ZTc h1 h2 he;exact ⟨V.ok.mono (fun k h=>absurd h (Nat.not_lt_zero k)) q4,by show e.st<1;omega⟩
  refine ZRk hC (Zbo hC hinl 20) c h ⟨_,_,_,hr⟩ ⟨fun f' l' n' a' w' hp hn' ho' hr'=>(by cases hp),fun i f' l' n' a' w' hp hn' ho' hr'=>(by cases hp),fun c l' n' a' w' hp hn' ho' hr'=>?_⟩;obtain ⟨γ',v',ℓ',vals',hr',hc',hk',hres⟩:=hr';have hp:endM ty ty2 t c l'=some z:=hp;unfold endM at hp;split at hp
  ·rename_i u;split at hp
   ·rename_i kk st ty' ty2' t' m' hv' he;split at hp
    ·rename_i hty hty2;have hty:=Nat.eq_of_beq_eq_true hty;have hty2:=Nat.eq_of_beq_eq_true hty2;subst hty hty2;obtain ⟨e1,e2⟩:=Z7 hp
     cases e1;cases e2
     obtain ⟨c1,xs1,rfl,⟨y,rfl,_,hy⟩,hx1⟩:=hc';have hx1:xs1=[]:=hx1;subst hx1;obtain ⟨ob,cap,rows0,g1,rfl⟩:=hy _ he;obtain ⟨E,hE,hpm⟩:=hr'.lr;obtain ⟨es,E',r1,r2,r3⟩:=ZCf hE he;obtain ⟨ob',cap',rows,es2,q1,q2,rfl⟩:=r1;have hkk:kk=_:=(Zy he).2;subst hkk;have q1:γ' kk = .mat ob' cap' rows:=q1;rw [g1] at q1;cases q1;refine ⟨hr'.st.dfr,_,Zui hres,_,v',rfl,hr'.st.ext.ext,hr'.st.vst.ext,_,_,_,es2,rfl,q2,fun x hx=>?_,Z1u hr'.st.nd (hpm.trans r3)⟩;obtain ⟨hh,hb⟩:=hr'.st.loc x ((hpm.trans r3).mem_iff.2 (List.mem_append_left _ hx));refine ⟨hh,fun b e=>?_⟩;obtain ⟨h1,h2⟩:=hb b e;rcases h1 with h1 | h1
     ·exact ⟨h1,h2⟩
     ·cases h1
    ·cases hp
   ·cases hp
  ·cases hp
 ·cases h
theorem conm_k {C:Cf} (hc:CL C.P C.cons) (ho:OL C.P C.owns) (hi:IL C.P C.ins) (hm:ML C.P C.meths) {inl:Inl} (hn:NL C.P inl) {f:FuncId} {fn:Func} {ann:Ann} {con:ConM} (hf:C.P.funcs[f]? = some fn) (hen:Z4 C.P f) (hl:Nat.ble con.args.length fn.ntmps=true)
  (h:∀ x z,con.F x=some z→Zll C inl fn ann con.args con.ty con.ty2 con.t x=some z) (hq:QL C.P C.omats:=by exact trivial):ZGi C.P f con :=
 fun _ _ _ x z hv ha hz=>⟨hen,Z2s (CfOK.of hc ho hi hm hq) (ZMc.of hn) hf hl (h x z hz) hv ha⟩
end Go.Eng
set_option maxRecDepth 100000
set_option maxHeartbeats 4000000
namespace Go.Eng
open Go.Proofs Go.RowKit
noncomputable def ZRc:FuncId×ConO:=(49,⟨[.int .i64],43,.leaf 3,fun p=>ZLf p⟩)
theorem Z6s (n:Int):Zii ⟨Tryz.prog,[(39,0),(41,2),(43,3),(91,1),(93,4)],[Z7b],[],[Z5e],[],[],[]⟩ [] Tryz.f49 .no [.int .i64] 43 (.leaf 3) (n)=ZLf n:=by kernel_rfl
theorem ZNh:ZHe Tryz.prog ZRc.1 ZRc.2:=ZYq (C:=⟨Tryz.prog,[(39,0),(41,2),(43,3),(91,1),(93,4)],[Z7b],[],[Z5e],[],[],[]⟩) ⟨Zih,trivial⟩ ⟨Zfo,trivial⟩ trivial trivial (inl:=[]) trivial (ann:=.no) Tryz.func49 (fun _ _=>by kernel_rfl) rfl (fun x z hz=>(Z6s x).trans hz)
end Go.Eng
set_option maxRecDepth 100000
set_option maxHeartbeats 4000000
namespace Go.Eng
open Go.Proofs Go.RowKit
noncomputable def Zaj:FuncId×ConM:=(95,⟨[.slice (.slice (.leaf 3))],30,43,.leaf 3,fun p=>ZEo p⟩)
theorem ZHu (m:List (List Rat)):Zll ⟨Tryz.prog,[(39,0),(41,2),(43,3),(91,1),(93,4)],[],[8],[Zud],[],[],[]⟩ [] Tryz.f95 (.two .no (.two .no (.two (.two .no (.two (.cut ⟨⟨[3,9,10],[],[.s 11 (.dat (.int .i64)),.l (.sl 3) (.mat 30 43 (.leaf 3))]⟩,[(.exit 0,⟨[3],[],[.l (.sl 3) (.mat 30 43 (.leaf 3))]⟩)]⟩ .no) .no)) .no))) [.slice (.slice (.leaf 3))] 30 43 (.leaf 3) (m)=ZEo m:=by kernel_rfl
theorem Z1s:ZGi Tryz.prog Zaj.1 Zaj.2:=conm_k (C:=⟨Tryz.prog,[(39,0),(41,2),(43,3),(91,1),(93,4)],[],[8],[Zud],[],[],[]⟩) trivial ⟨Z5i,trivial⟩ trivial trivial (inl:=[]) trivial (ann:=(.two .no (.two .no (.two (.two .no (.two (.cut ⟨⟨[3,9,10],[],[.s 11 (.dat (.int .i64)),.l (.sl 3) (.mat 30 43 (.leaf 3))]⟩,[(.exit 0,⟨[3],[],[.l (.sl 3) (.mat 30 43 (.leaf 3))]⟩)]⟩ .no) .no)) .no)))) Tryz.func95 (fun _ _=>by kernel_rfl) rfl (fun x z hz=>(ZHu x).trans hz)
end Go.Eng
set_option maxRecDepth 100000
set_option maxHeartbeats 4000000
namespace Go.Eng
open Go.Proofs Go.RowKit
noncomputable def Z3j:FuncId×Con:=(125,⟨[.ptr (.pair (.slice (.slice (.leaf 3))) (.pair (.slice (.leaf 3)) (.pair (.slice (.leaf 3)) (.pair (.leaf 3) (.pair (.slice (.int .i64)) (.slice (.int .i64))))))),.int .i64],[.slice (.leaf 3)],fun p=>Z8k p.1 p.2⟩)
theorem ZDw (t:(List (List Rat))×(List Rat)×(List Rat)×Rat×(List Int)×(List Int)) (n:Int):Zm ⟨Tryz.prog,[(39,0),(41,2),(43,3),(91,1),(93,4)],[],[],[ZRc],[],[],[]⟩ [] Tryz.f125 (.two .no (.two .no (.two (.two .no (.two (.cut ⟨⟨[0,1,5,13,14],[],[.s 15 (.dat (.int .i64)),.l (.sl 5) (.own 43 (.leaf 3))]⟩,[(.exit 0,⟨[5],[],[.l (.sl 5) (.own 43 (.leaf 3))]⟩)]⟩ (.two (.two .no (.two .no (.two (.two (.two .no (.two .no (.cut ⟨⟨[],[],[]⟩,[(.norm,⟨[0,1,5,13,14,15],[],[.l (.sl 5) (.own 43 (.leaf 3))]⟩)]⟩ .no))) .no) .no))) .no)) .no)) .no))) [.ptr (.pair (.slice (.slice (.leaf 3))) (.pair (.slice (.leaf 3)) (.pair (.slice (.leaf 3)) (.pair (.leaf 3) (.pair (.slice (.int .i64)) (.slice (.int .i64))))))),.int .i64] [.slice (.leaf 3)] (t,n)=Z8k t n:=by kernel_rfl
theorem Zwx:Zl Tryz.prog Z3j.1 Z3j.2:=Zp (C:=⟨Tryz.prog,[(39,0),(41,2),(43,3),(91,1),(93,4)],[],[],[ZRc],[],[],[]⟩) trivial ⟨ZNh,trivial⟩ trivial trivial (inl:=[]) trivial (ann:=(.two .no (.two .no (.two (.two .no (.two (.cut ⟨⟨[0,1,5,13,14],[],[.s 15 (.dat (.int .i64)),.l (.sl 5) (.own 43 (.leaf 3))]⟩,[(.exit 0,⟨[5],[],[.l (.sl 5) (.own 43 (.leaf 3))]⟩)]⟩ (.two (.two .no (.two .no (.two (.two (.two .no (.two .no (.cut ⟨⟨[],[],[]⟩,[(.norm,⟨[0,1,5,13,14,15],[],[.l (.sl 5) (.own 43 (.leaf 3))]⟩)]⟩ .no))) .no) .no))) .no)) .no)) .no)))) Tryz.func125 (fun _ _=>by kernel_rfl) rfl (fun v vals x z ha hz=>(ZDw x.1 x.2).trans hz)
end Go.Eng
set_option maxRecDepth 100000
set_option maxHeartbeats 4000000
namespace Go.Eng
open Go.Proofs Go.RowKit
noncomputable def Z0j:FuncId×Con:=(126,⟨[.ptr (.pair (.slice (.slice (.leaf 3))) (.pair (.slice (.leaf 3)) (.pair (.slice (.leaf 3)) (.pair (.leaf 3) (.pair (.slice (.int .i64)) (.slice (.int .i64))))))),.int .i64,.int .i64],[.slice (.leaf 3)],fun p=>Zfm p.1 p.2.1 p.2.2⟩)
theorem Z3w (t : (List (List Rat)) × (List Rat) × (List Rat) × Rat × (List Int) × (List Int)) (n : Int) (k : Int) : Zm ⟨Tryz.prog, [(39, 0), (41, 2), (43, 3), (91, 1), (93, 4)], [Zzc], [], [ZRc], [], [((43, "Neg"), 117)], []⟩ [] Tryz.f126 (.two .no (.two .no (.two (.two .no (.two (.cut ⟨⟨[0, 1, 2, 7, 15, 16], [], [.s 17 (.dat (.int .i64)), .l (.sl 7) (.own 43 (.leaf 3))]⟩, [(.exit 0, ⟨[7], [], [.l (.sl 7) (.own 43 (.leaf 3))]⟩)]⟩ (.two (.two .no (.two .no (.two (.two (.two .no (.two (.cut ⟨⟨[], [], []⟩, [(.norm, ⟨[0, 1, 2, 7, 8, 9, 15, 16, 17], [], [.s 31 (.dat .bool)]⟩)]⟩ .no) (.cut ⟨⟨[], [], []⟩, [(.norm, ⟨[0, 1, 2, 7, 15, 16, 17], [], [.l (.sl 7) (.own 43 (.leaf 3))]⟩)]⟩ .no))) .no) .no))) .no)) .no)) .no))) [.ptr (.pair (.slice (.slice (.leaf 3))) (.pair (.slice (.leaf 3)) (.pair (.slice (.leaf 3)) (.pair (.leaf 3) (.pair (.slice (.int .i64)) (.slice (.int .i64))))))), .int .i64, .int .i64] [.slice (.leaf 3)] (t, n, k) = Zfm t n k := by kernel_rfl
theorem ZPv : Zl Tryz.prog Z0j.1 Z0j.2 := Zp (C := ⟨Tryz.prog, [(39, 0), (41, 2), (43, 3), (91, 1), (93, 4)], [Zzc], [], [ZRc], [], [((43, "Neg"), 117)], []⟩) ⟨ZZh, trivial⟩ ⟨ZNh, trivial⟩ trivial ⟨Zik, trivial⟩ (inl := []) trivial (ann := (.two .no (.two .no (.two (.two .no (.two (.cut ⟨⟨[0, 1, 2, 7, 15, 16], [], [.s 17 (.dat (.int .i64)), .l (.sl 7) (.own 43 (.leaf 3))]⟩, [(.exit 0, ⟨[7], [], [.l (.sl 7) (.own 43 (.leaf 3))]⟩)]⟩ (.two (.two .no (.two .no (.two (.two (.two .no (.two (.cut ⟨⟨[], [], []⟩, [(.norm, ⟨[0, 1, 2, 7, 8, 9, 15, 16, 17], [], [.s 31 (.dat .bool)]⟩)]⟩ .no) (.cut ⟨⟨[], [], []⟩, [(.norm, ⟨[0, 1, 2, 7, 15, 16, 17], [], [.l (.sl 7) (.own 43 (.leaf 3))]⟩)]⟩ .no))) .no) .no))) .no)) .no)) .no)))) Tryz.func126 (fun _ _ => by kernel_rfl) rfl (fun v vals x z ha hz => (Z3w x.1 x.2.1 x.2.2).trans hz)
end Go.Eng
set_option maxRecDepth 100000
set_option maxHeartbeats 4000000
namespace Go.Eng
open Go.Proofs Go.RowKit
noncomputable def Zel:FuncId×Con:=(81,⟨[.pair (.slice (.slice (.leaf 3))) (.pair (.slice (.leaf 3)) (.slice (.leaf 3)))],[.pair (.int .i64) (.pair (.leaf 3) (.pair (.slice (.leaf 3)) (.pair (.slice (.leaf 3)) (.slice (.leaf 3)))))],fun p=>Zrn p⟩)
theorem Zsw (p : (List (List Rat)) × (List Rat) × (List Rat)) : Zm ⟨Tryz.prog, [(39, 0), (41, 2), (43, 3), (91, 1), (93, 4)], [Z3b, Z4b, ZGc, Zuh, Z7b, Zdf, ZVd, Zzc, Z3j, Z0j, Zhg], [], [ZRc, Zud], [], [((43, "Add"), 23), ((43, "Cmp"), 31), ((43, "Div"), 213), ((43, "Mul"), 30), ((43, "Neg"), 117), ((43, "Sign"), 72), ((43, "Sub"), 71), ((43, "Zero"), 22)], [Zaj]⟩ [(122, Tryz.f122, .two .no (.two .no (.two (.two .no (.two (.cut ⟨⟨[1, 3, 20], [.fld (.sl 3) 0, .fld (.sl 3) 1, .fld (.sl 3) 2], [.s 21 (.dat (.int .i64)), .l (.sl 3) (.box 166 (.agg (.cons (.mat 30 43 (.leaf 3)) (.cons (.own 43 (.leaf 3)) (.cons (.own 43 (.leaf 3)) (.cons (.dat (.leaf 3)) (.cons (.own 3 (.int .i64)) (.one (.own 3 (.int .i64))))))))))]⟩, [(.exit 0, ⟨[1, 3], [.fld (.sl 3) 0, .fld (.sl 3) 1, .fld (.sl 3) 2], [.l (.sl 3) (.box 166 (.agg (.cons (.mat 30 43 (.leaf 3)) (.cons (.own 43 (.leaf 3)) (.cons (.own 43 (.leaf 3)) (.cons (.dat (.leaf 3)) (.cons (.own 3 (.int .i64)) (.one (.own 3 (.int .i64))))))))))]⟩)]⟩ .no) .no)) (.two (.two .no (.two (.cut ⟨⟨[1, 3, 37], [.fld (.sl 3) 0, .fld (.sl 3) 1, .fld (.sl 3) 2, .fld (.sl 3) 6, .fld (.sl 3) 7], [.s 38 (.dat (.int .i64)), .l (.sl 3) (.box 166 (.agg (.cons (.mat 30 43 (.leaf 3)) (.cons (.own 43 (.leaf 3)) (.cons (.own 43 (.leaf 3)) (.cons (.dat (.leaf 3)) (.cons (.own 3 (.int .i64)) (.one (.own 3 (.int .i64))))))))))]⟩, [(.exit 2, ⟨[3], [.fld (.sl 3) 0, .fld (.sl 3) 1, .fld (.sl 3) 2, .fld (.sl 3) 6, .fld (.sl 3) 7], [.l (.sl 3) (.box 166 (.agg (.cons (.mat 30 43 (.leaf 3)) (.cons (.own 43 (.leaf 3)) (.cons (.own 43 (.leaf 3)) (.cons (.dat (.leaf 3)) (.cons (.own 3 (.int .i64)) (.one (.own 3 (.int .i64))))))))))]⟩)]⟩ .no) .no)) .no)))), (123, Tryz.f123, .two .no (.two .no (.two .no (.two (.two .no (.two (.cut ⟨⟨[0, 3, 6, 7, 8, 34, 35], [], [.s 9 (.dat (.int .i64)), .s 36 (.dat (.int .i64))]⟩, [(.exit 0, ⟨[0, 3, 6, 7, 8], [], [.s 9 (.dat (.int .i64))]⟩)]⟩ (.two (.two .no (.two .no (.two (.two (.two .no (.two (.cut ⟨⟨[], [], []⟩, [(.norm, ⟨[0, 3, 6, 7, 8, 9, 10, 34, 35, 36], [], [.s 61 (.dat .bool)]⟩)]⟩ .no) (.cut ⟨⟨[], [], []⟩, [(.norm, ⟨[0, 3, 6, 7, 8, 34, 35, 36], [], [.s 9 (.dat (.int .i64))]⟩)]⟩ .no))) .no) .no))) .no)) .no)) (.two .no (.two (.two .no (.two (.unroll 0 .no) .no)) .no)))))), (124, Tryz.f124, .two .no (.two (.cut ⟨⟨[0, 1], [.fld (.sl 0) 0, .fld (.sl 0) 1, .fld (.sl 0) 2, .fld (.sl 0) 6, .fld (.sl 0) 7], [.l (.sl 0) (.box 166 (.agg (.cons (.mat 30 43 (.leaf 3)) (.cons (.own 43 (.leaf 3)) (.cons (.own 43 (.leaf 3)) (.cons (.dat (.leaf 3)) (.cons (.own 3 (.int .i64)) (.one (.own 3 (.int .i64))))))))))]⟩, [(.ret, ⟨[], [.fld (.sl 0) 0, .fld (.sl 0) 1, .fld (.sl 0) 2, .fld (.sl 0) 6, .fld (.sl 0) 7], [.s 1000 (.dat (.int .i64)), .l (.sl 0) (.box 166 (.agg (.cons (.mat 30 43 (.leaf 3)) (.cons (.own 43 (.leaf 3)) (.cons (.own 43 (.leaf 3)) (.cons (.dat (.leaf 3)) (.cons (.own 3 (.int .i64)) (.one (.own 3 (.int .i64))))))))))]⟩)]⟩ .no) .no)), (159, Tryz.f159, .two .no (.two .no (.two (.two .no (.two (.cut ⟨⟨[0, 1, 2, 7, 37], [], [.s 38 (.dat (.int .i64)), .l (.sl 20) (.mat 30 43 (.leaf 3))]⟩, [(.exit 0, ⟨[0, 1, 2, 7], [], [.l (.sl 20) (.mat 30 43 (.leaf 3))]⟩)]⟩ .no) .no)) (.two .no (.two .no (.two (.two .no (.two (.cut ⟨⟨[0, 1, 2, 94], [], [.s 95 (.dat (.int .i64)), .l (.sl 67) (.mat 30 43 (.leaf 3)), .l (.sl 77) (.own 43 (.leaf 3))]⟩, [(.exit 2, ⟨[0, 1, 2], [], [.l (.sl 67) (.mat 30 43 (.leaf 3)), .l (.sl 77) (.own 43 (.leaf 3))]⟩)]⟩ (.two (.two .no (.two .no (.two (.cut ⟨⟨[], [], []⟩, [(.norm, ⟨[0, 1, 2, 94, 95], [], [.l (.fld (.sl 0) 0) (.mat 30 43 (.leaf 3)), .l (.fld (.sl 0) 1) (.own 43 (.leaf 3))]⟩)]⟩ (.two (.two .no (.two (.two (.cut ⟨⟨[], [], []⟩, [(.norm, ⟨[0, 1, 2, 10, 94, 95], [], [.s 114 (.dat .bool)]⟩)]⟩ .no) .no) .no)) .no)) .no))) .no)) .no)) .no)))))), (164, Tryz.f164, .two .no (.two .no (.two (.two .no (.two (.cut ⟨⟨[0, 9, 10], [], [.s 3 (.dat (.int .i64)), .s 11 (.dat (.int .i64))]⟩, [(.exit 0, ⟨[], [], [.s 3 (.dat (.int .i64))]⟩)]⟩ (.two (.two .no (.two .no (.two (.two (.two .no (.two (.cut ⟨⟨[], [], []⟩, [(.norm, ⟨[0, 3, 4, 9, 10, 11], [], [.s 40 (.dat .bool)]⟩)]⟩ .no) (.cut ⟨⟨[], [], []⟩, [(.norm, ⟨[0, 9, 10, 11], [], [.s 3 (.dat (.int .i64))]⟩)]⟩ .no))) .no) .no))) .no)) .no)) .no))), (165, Tryz.f165, .two .no (.two .no (.two .no (.two (.two .no (.two (.cut ⟨⟨[0, 1, 2, 8, 17], [], [.s 7 (.dat (.int .i64)), .s 18 (.dat (.int .i64)), .l (.sl 8) (.box 43 (.dat (.leaf 3)))]⟩, [(.exit 0, ⟨[], [], [.s 7 (.dat (.int .i64))]⟩)]⟩ (.two (.two .no (.two .no (.two (.cut ⟨⟨[], [], []⟩, [(.norm, ⟨[0, 1, 2, 8, 17, 18], [], [.s 7 (.dat (.int .i64)), .l (.sl 8) (.box 43 (.dat (.leaf 3)))]⟩)]⟩ (.two (.two .no (.two .no (.two .no (.two .no (.two (.two .no (.cut ⟨⟨[], [], []⟩, [(.norm, ⟨[0, 1, 2, 7, 8, 9, 10, 17, 18], [], [.s 12 (.dat (.int .i64))]⟩)]⟩ .no)) (.two (.cut ⟨⟨[], [], []⟩, [(.norm, ⟨[0, 1, 2, 7, 8, 9, 10, 17, 18], [], [.s 110 (.dat .bool)]⟩)]⟩ .no) (.cut ⟨⟨[], [], []⟩, [(.norm, ⟨[0, 1, 2, 8, 17, 18], [], [.s 7 (.dat (.int .i64)), .l (.sl 8) (.box 43 (.dat (.leaf 3)))]⟩)]⟩ .no))))))) .no)) .no))) .no)) .no)) .no)))), (182, Tryz.f182, .sel 1 (.two .no (.two (.two .no (.two (.cut ⟨⟨[0, 1, 2, 3, 8, 15], [], [.s 16 (.dat (.int .i64)), .l (.fld (.sl 0) 0) (.agg (.mat 30 43 (.leaf 3)))]⟩, [(.exit 0, ⟨[0, 1, 2, 3, 8], [], [.l (.fld (.sl 0) 0) (.agg (.mat 30 43 (.leaf 3)))]⟩)]⟩ .no) .no)) .no)) (.two .no (.two (.two .no (.two (.cut ⟨⟨[0, 1, 2, 3, 8, 15], [], [.s 16 (.dat (.int .i64)), .l (.sl 1) (.own 43 (.leaf 3))]⟩, [(.exit 0, ⟨[0, 1, 2, 3, 8], [], [.l (.sl 1) (.own 43 (.leaf 3))]⟩)]⟩ .no) .no)) .no)))] Tryz.f81 (.two .no (.two .no (.two .no (.two .no (.two .no (.two (.cut ⟨⟨[], [], []⟩, [(.norm, ⟨[2, 3, 4, 6], [], [.s 5 (.dat (.ptr (.pair (.slice (.slice (.leaf 3))) (.pair (.slice (.leaf 3)) (.pair (.slice (.leaf 3)) (.pair (.leaf 3) (.pair (.slice (.int .i64)) (.slice (.int .i64))))))))), .s 9 (.dat (.int .i64))]⟩)]⟩ .no) (.two .no (.two .no (.two (.two .no (.two .no (.cut ⟨⟨[], [], []⟩, [(.norm, ⟨[2, 3, 5, 6, 9, 10], [], [.l (.sl 10) (.own 43 (.leaf 3))]⟩)]⟩ .no))) (.two (.two .no (.two (.cut ⟨⟨[2, 3, 5, 6, 9, 10, 69, 70], [], [.s 71 (.dat (.int .i64)), .l (.sl 10) (.own 43 (.leaf 3))]⟩, [(.exit 0, ⟨[2, 3, 5, 6, 10], [], [.l (.sl 10) (.own 43 (.leaf 3))]⟩)]⟩ (.two (.two .no (.two .no (.two (.two (.two .no (.two .no (.cut ⟨⟨[], [], []⟩, [(.norm, ⟨[2, 3, 5, 6, 9, 10, 69, 70, 71], [], [.l (.sl 10) (.own 43 (.leaf 3))]⟩)]⟩ .no))) .no) .no))) .no)) .no)) .no)))))))))) [.pair (.slice (.slice (.leaf 3))) (.pair (.slice (.leaf 3)) (.slice (.leaf 3)))] [.pair (.int .i64) (.pair (.leaf 3) (.pair (.slice (.leaf 3)) (.pair (.slice (.leaf 3)) (.slice (.leaf 3)))))] (p) = Zrn p := by kernel_rfl
theorem Zus : Zl Tryz.prog Zel.1 Zel.2 := Zp (C := ⟨Tryz.prog, [(39, 0), (41, 2), (43, 3), (91, 1), (93, 4)], [Z3b, Z4b, ZGc, Zuh, Z7b, Zdf, ZVd, Zzc, Z3j, Z0j, Zhg], [], [ZRc, Zud], [], [((43, "Add"), 23), ((43, "Cmp"), 31), ((43, "Div"), 213), ((43, "Mul"), 30), ((43, "Neg"), 117), ((43, "Sign"), 72), ((43, "Sub"), 71), ((43, "Zero"), 22)], [Zaj]⟩) ⟨Zbh, Zug, ZTi, ZJq, Zih, Z2n, ZJl, ZZh, Zwx, ZPv, ZZr, trivial⟩ ⟨ZNh, Z5i, trivial⟩ trivial ⟨ZEm, Z7p, ZIq, ZFj, Zik, Zon, ZYr, Z9i, trivial⟩ (inl := [(122, Tryz.f122, .two .no (.two .no (.two (.two .no (.two (.cut ⟨⟨[1, 3, 20], [.fld (.sl 3) 0, .fld (.sl 3) 1, .fld (.sl 3) 2], [.s 21 (.dat (.int .i64)), .l (.sl 3) (.box 166 (.agg (.cons (.mat 30 43 (.leaf 3)) (.cons (.own 43 (.leaf 3)) (.cons (.own 43 (.leaf 3)) (.cons (.dat (.leaf 3)) (.cons (.own 3 (.int .i64)) (.one (.own 3 (.int .i64))))))))))]⟩, [(.exit 0, ⟨[1, 3], [.fld (.sl 3) 0, .fld (.sl 3) 1, .fld (.sl 3) 2], [.l (.sl 3) (.box 166 (.agg (.cons (.mat 30 43 (.leaf 3)) (.cons (.own 43 (.leaf 3)) (.cons (.own 43 (.leaf 3)) (.cons (.dat (.leaf 3)) (.cons (.own 3 (.int .i64)) (.one (.own 3 (.int .i64))))))))))]⟩)]⟩ .no) .no)) (.two (.two .no (.two (.cut ⟨⟨[1, 3, 37], [.fld (.sl 3) 0, .fld (.sl 3) 1, .fld (.sl 3) 2, .fld (.sl 3) 6, .fld (.sl 3) 7], [.s 38 (.dat (.int .i64)), .l (.sl 3) (.box 166 (.agg (.cons (.mat 30 43 (.leaf 3)) (.cons (.own 43 (.leaf 3)) (.cons (.own 43 (.leaf 3)) (.cons (.dat (.leaf 3)) (.cons (.own 3 (.int .i64)) (.one (.own 3 (.int .i64))))))))))]⟩, [(.exit 2, ⟨[3], [.fld (.sl 3) 0, .fld (.sl 3) 1, .fld (.sl 3) 2, .fld (.sl 3) 6, .fld (.sl 3) 7], [.l (.sl 3) (.box 166 (.agg (.cons (.mat 30 43 (.leaf 3)) (.cons (.own 43 (.leaf 3)) (.cons (.own 43 (.leaf 3)) (.cons (.dat (.leaf 3)) (.cons (.own 3 (.int .i64)) (.one (.own 3 (.int .i64))))))))))]⟩)]⟩ .no) .no)) .no)))), (123, Tryz.f123, .two .no (.two .no (.two .no (.two (.two .no (.two (.cut ⟨⟨[0, 3, 6, 7, 8, 34, 35], [], [.s 9 (.dat (.int .i64)), .s 36 (.dat (.int .i64))]⟩, [(.exit 0, ⟨[0, 3, 6, 7, 8], [], [.s 9 (.dat (.int .i64))]⟩)]⟩ (.two (.two .no (.two .no (.two (.two (.two .no (.two (.cut ⟨⟨[], [], []⟩, [(.norm, ⟨[0, 3, 6, 7, 8, 9, 10, 34, 35, 36], [], [.s 61 (.dat .bool)]⟩)]⟩ .no) (.cut ⟨⟨[], [], []⟩, [(.norm, ⟨[0, 3, 6, 7, 8, 34, 35, 36], [], [.s 9 (.dat (.int .i64))]⟩)]⟩ .no))) .no) .no))) .no)) .no)) (.two .no (.two (.two .no (.two (.unroll 0 .no) .no)) .no)))))), (124, Tryz.f124, .two .no (.two (.cut ⟨⟨[0, 1], [.fld (.sl 0) 0, .fld (.sl 0) 1, .fld (.sl 0) 2, .fld (.sl 0) 6, .fld (.sl 0) 7], [.l (.sl 0) (.box 166 (.agg (.cons (.mat 30 43 (.leaf 3)) (.cons (.own 43 (.leaf 3)) (.cons (.own 43 (.leaf 3)) (.cons (.dat (.leaf 3)) (.cons (.own 3 (.int .i64)) (.one (.own 3 (.int .i64))))))))))]⟩, [(.ret, ⟨[], [.fld (.sl 0) 0, .fld (.sl 0) 1, .fld (.sl 0) 2, .fld (.sl 0) 6, .fld (.sl 0) 7], [.s 1000 (.dat (.int .i64)), .l (.sl 0) (.box 166 (.agg (.cons (.mat 30 43 (.leaf 3)) (.cons (.own 43 (.leaf 3)) (.cons (.own 43 (.leaf 3)) (.cons (.dat (.leaf 3)) (.cons (.own 3 (.int .i64)) (.one (.own 3 (.int .i64))))))))))]⟩)]⟩ .no) .no)), (159, Tryz.f159, .two .no (.two .no (.two (.two .no (.two (.cut ⟨⟨[0, 1, 2, 7, 37], [], [.s 38 (.dat (.int .i64)), .l (.sl 20) (.mat 30 43 (.leaf 3))]⟩, [(.exit 0, ⟨[0, 1, 2, 7], [], [.l (.sl 20) (.mat 30 43 (.leaf 3))]⟩)]⟩ .no) .no)) (.two .no (.two .no (.two (.two .no (.two (.cut ⟨⟨[0, 1, 2, 94], [], [.s 95 (.dat (.int .i64)), .l (.sl 67) (.mat 30 43 (.leaf 3)), .l (.sl 77) (.own 43 (.leaf 3))]⟩, [(.exit 2, ⟨[0, 1, 2], [], [.l (.sl 67) (.mat 30 43 (.leaf 3)), .l (.sl 77) (.own 43 (.leaf 3))]⟩)]⟩ (.two (.two .no (.two .no (.two (.cut ⟨⟨[], [], []⟩, [(.norm, ⟨[0, 1, 2, 94, 95], [], [.l (.fld (.sl 0) 0) (.mat 30 43 (.leaf 3)), .l (.fld (.sl 0) 1) (.own 43 (.leaf 3))]⟩)]⟩ (.two (.two .no (.two (.two (.cut ⟨⟨[], [], []⟩, [(.norm, ⟨[0, 1, 2, 10, 94, 95], [], [.s 114 (.dat .bool)]⟩)]⟩ .no) .no) .no)) .no)) .no))) .no)) .no)) .no)))))), (164, Tryz.f164, .two .no (.two .no (.two (.two .no (.two (.cut ⟨⟨[0, 9, 10], [], [.s 3 (.dat (.int .i64)), .s 11 (.dat (.int .i64))]⟩, [(.exit 0, ⟨[], [], [.s 3 (.dat (.int .i64))]⟩)]⟩ (.two (.two .no (.two .no (.two (.two (.two .no (.two (.cut ⟨⟨[], [], []⟩, [(.norm, ⟨[0, 3, 4, 9, 10, 11], [], [.s 40 (.dat .bool)]⟩)]⟩ .no) (.cut ⟨⟨[], [], []⟩, [(.norm, ⟨[0, 9, 10, 11], [], [.s 3 (.dat (.int .i64))]⟩)]⟩ .no))) .no) .no))) .no)) .no)) .no))), (165, Tryz.f165, .two .no (.two .no (.two .no (.two (.two .no (.two (.cut ⟨⟨[0, 1, 2, 8, 17], [], [.s 7 (.dat (.int .i64)), .s 18 (.dat (.int .i64)), .l (.sl 8) (.box 43 (.dat (.leaf 3)))]⟩, [(.exit 0, ⟨[], [], [.s 7 (.dat (.int .i64))]⟩)]⟩ (.two (.two .no (.two .no (.two (.cut ⟨⟨[], [], []⟩, [(.norm, ⟨[0, 1, 2, 8, 17, 18], [], [.s 7 (.dat (.int .i64)), .l (.sl 8) (.box 43 (.dat (.leaf 3)))]⟩)]⟩ (.two (.two .no (.two .no (.two .no (.two .no (.two (.two .no (.cut ⟨⟨[], [], []⟩, [(.norm, ⟨[0, 1, 2, 7, 8, 9, 10, 17, 18], [], [.s 12 (.dat (.int .i64))]⟩)]⟩ .no)) (.two (.cut ⟨⟨[], [], []⟩, [(.norm, ⟨[0, 1, 2, 7, 8, 9, 10, 17, 18], [], [.s 110 (.dat .bool)]⟩)]⟩ .no) (.cut ⟨⟨[], [], []⟩, [(.norm, ⟨[0, 1, 2, 8, 17, 18], [], [.s 7 (.dat (.int .i64)), .l (.sl 8) (.box 43 (.dat (.leaf 3)))]⟩)]⟩ .no))))))) .no)) .no))) .no)) .no)) .no)))), (182, Tryz.f182, .sel 1 (.two .no (.two (.two .no (.two (.cut ⟨⟨[0, 1, 2, 3, 8, 15], [], [.s 16 (.dat (.int .i64)), .l (.fld (.sl 0) 0) (.agg (.mat 30 43 (.leaf 3)))]⟩, [(.exit 0, ⟨[0, 1, 2, 3, 8], [], [.l (.fld (.sl 0) 0) (.agg (.mat 30 43 (.leaf 3)))]⟩)]⟩ .no) .no)) .no)) (.two .no (.two (.two .no (.two (.cut ⟨⟨[0, 1, 2, 3, 8, 15], [], [.s 16 (.dat (.int .i64)), .l (.sl 1) (.own 43 (.leaf 3))]⟩, [(.exit 0, ⟨[0, 1, 2, 3, 8], [], [.l (.sl 1) (.own 43 (.leaf 3))]⟩)]⟩ .no) .no)) .no)))]) ⟨⟨Tryz.func122, fun _ _ => by kernel_rfl⟩, ⟨Tryz.func123, fun _ _ => by kernel_rfl⟩, ⟨Tryz.func124, fun _ _ => by kernel_rfl⟩, ⟨Tryz.func159, fun _ _ => by kernel_rfl⟩, ⟨Tryz.func164, fun _ _ => by kernel_rfl⟩, ⟨Tryz.func165, fun _ _ => by kernel_rfl⟩, ⟨Tryz.func182, fun _ _ => by kernel_rfl⟩, trivial⟩ (ann := (.two .no (.two .no (.two .no (.two .no (.two .no (.two (.cut ⟨⟨[], [], []⟩, [(.norm, ⟨[2, 3, 4, 6], [], [.s 5 (.dat (.ptr (.pair (.slice (.slice (.leaf 3))) (.pair (.slice (.leaf 3)) (.pair (.slice (.leaf 3)) (.pair (.leaf 3) (.pair (.slice (.int .i64)) (.slice (.int .i64))))))))), .s 9 (.dat (.int .i64))]⟩)]⟩ .no) (.two .no (.two .no (.two (.two .no (.two .no (.cut ⟨⟨[], [], []⟩, [(.norm, ⟨[2, 3, 5, 6, 9, 10], [], [.l (.sl 10) (.own 43 (.leaf 3))]⟩)]⟩ .no))) (.two (.two .no (.two (.cut ⟨⟨[2, 3, 5, 6, 9, 10, 69, 70], [], [.s 71 (.dat (.int .i64)), .l (.sl 10) (.own 43 (.leaf 3))]⟩, [(.exit 0, ⟨[2, 3, 5, 6, 10], [], [.l (.sl 10) (.own 43 (.leaf 3))]⟩)]⟩ (.two (.two .no (.two .no (.two (.two (.two .no (.two .no (.cut ⟨⟨[], [], []⟩, [(.norm, ⟨[2, 3, 5, 6, 9, 10, 69, 70, 71], [], [.l (.sl 10) (.own 43 (.leaf 3))]⟩)]⟩ .no))) .no) .no))) .no)) .no)) .no))))))))))) Tryz.func81 (fun _ _ => by kernel_rfl) rfl (fun v vals x z ha hz => (Zsw x).trans hz) (hq := ⟨Z1s, trivial⟩)
end Go.Eng
set_option maxRecDepth 100000
set_option maxHeartbeats 4000000
namespace Go.Eng
open Go.Proofs Go.RowKit
noncomputable def ZPk:FuncId×Con:=(37,⟨[.pair (.slice (.slice (.leaf 3))) (.pair (.slice (.leaf 3)) (.slice (.leaf 3)))],[.pair (.int .i64) (.pair (.leaf 3) (.pair (.slice (.leaf 3)) (.pair (.slice (.leaf 3)) (.slice (.leaf 3))))),.int .i64],fun p=>Zpm p⟩)
theorem ZXt (p:(List (List Rat))×(List Rat)×(List Rat)):Zm ⟨Tryz.prog,[(39,0),(41,2),(43,3),(91,1),(93,4)],[Zth,Zel],[],[],[],[],[]⟩ [] Tryz.f37 .no [.pair (.slice (.slice (.leaf 3))) (.pair (.slice (.leaf 3)) (.slice (.leaf 3)))] [.pair (.int .i64) (.pair (.leaf 3) (.pair (.slice (.leaf 3)) (.pair (.slice (.leaf 3)) (.slice (.leaf 3))))),.int .i64] (p)=Zpm p:=by kernel_rfl
theorem ZHs:Zl Tryz.prog ZPk.1 ZPk.2:=Zp (C:=⟨Tryz.prog,[(39,0),(41,2),(43,3),(91,1),(93,4)],[Zth,Zel],[],[],[],[],[]⟩) ⟨ZWr,Zus,trivial⟩ trivial trivial trivial (inl:=[]) trivial (ann:=.no) Tryz.func37 (fun _ _=>by kernel_rfl) rfl (fun v vals x z ha hz=>(ZXt x).trans hz)
end Go.Eng
set_option maxRecDepth 100000
set_option maxHeartbeats 4000000
namespace Go.Eng
open Go.Proofs Go.RowKit
noncomputable def Z3e:FuncId×Con:=(24,⟨[.leaf 3,.leaf 3],[.bool],fun p=>ZHd p.1 p.2⟩)
theorem qsame_i (x:Rat) (y:Rat):Zm ⟨Tryz.prog,[(39,0),(41,2),(43,3)],[ZFg],[],[],[],[],[]⟩ [] Tryz.f24 (.two .no (.two (.cut ⟨⟨[],[],[]⟩,[(.norm,⟨[],[],[.s 4 (.dat .bool)]⟩)]⟩ .no) .no)) [.leaf 3,.leaf 3] [.bool] (x,y)=Z5l x y:=by kernel_rfl
theorem Zjn:Zl Tryz.prog Z3e.1 Z3e.2:=Zp (C:=⟨Tryz.prog,[(39,0),(41,2),(43,3)],[ZFg],[],[],[],[],[]⟩) ⟨cmp_k,trivial⟩ trivial trivial trivial (inl:=[]) trivial (ann:=.two .no (.two (.cut ⟨⟨[],[],[]⟩,[(.norm,⟨[],[],[.s 4 (.dat .bool)]⟩)]⟩ .no) .no)) Tryz.func24 (fun _ _=>by kernel_rfl) rfl fun v vals x z ha hz=>(qsame_i x.1 x.2).trans (Zqs hz)
end Go.Eng
set_option maxRecDepth 100000
set_option maxHeartbeats 4000000
namespace Go.Eng
open Go.Proofs Go.RowKit
noncomputable def ZBc:FuncId×Con:=(53,⟨[.slice (.leaf 3),.slice (.leaf 3)],[.leaf 3],fun p=>Ztc p.1 p.2⟩)
theorem ldot_i (x : List Rat) (y : List Rat) : Zm ⟨Tryz.prog, [(39, 0), (41, 2), (43, 3), (91, 1), (93, 4)], [Z4b, ZGc, Z7b], [], [], [], [((43, "Add"), 23), ((43, "Mul"), 30)], []⟩ [] Tryz.f53 (.two .no (.two .no (.two (.two .no (.two (.cut ⟨⟨[0, 1, 4, 5, 9], [], [.s 10 (.dat (.int .i64)), .l (.sl 5) (.box 43 (.dat (.leaf 3)))]⟩, [(.exit 0, ⟨[4, 5], [], [.l (.sl 5) (.box 43 (.dat (.leaf 3)))]⟩)]⟩ .no) .no)) .no))) [.slice (.leaf 3), .slice (.leaf 3)] [.leaf 3] (x, y) = Ztc x y := by kernel_rfl
theorem ZAi : Zl Tryz.prog ZBc.1 ZBc.2 := Zp (C := ⟨Tryz.prog, [(39, 0), (41, 2), (43, 3), (91, 1), (93, 4)], [Z4b, ZGc, Z7b], [], [], [], [((43, "Add"), 23), ((43, "Mul"), 30)], []⟩) ⟨Zug, ZTi, Zih, trivial⟩ trivial trivial ⟨ZEm, ZFj, trivial⟩ (inl := []) trivial (ann := (.two .no (.two .no (.two (.two .no (.two (.cut ⟨⟨[0, 1, 4, 5, 9], [], [.s 10 (.dat (.int .i64)), .l (.sl 5) (.box 43 (.dat (.leaf 3)))]⟩, [(.exit 0, ⟨[4, 5], [], [.l (.sl 5) (.box 43 (.dat (.leaf 3)))]⟩)]⟩ .no) .no)) .no)))) Tryz.func53 (fun _ _ => by kernel_rfl) rfl (fun v vals x z ha hz => (ldot_i x.1 x.2).trans hz)
end Go.Eng
set_option maxRecDepth 100000
set_option maxHeartbeats 4000000
namespace Go.Eng
open Go.Proofs Go.RowKit
noncomputable def ZEe:FuncId×Con:=(69,⟨[.slice (.slice (.leaf 3)),.slice (.leaf 3)],[.slice (.leaf 3)],fun p=>Zyf p.1 p.2⟩)
theorem ZKw (m:List (List Rat)) (x:List Rat):Zm ⟨Tryz.prog,[(39,0),(41,2),(43,3),(91,1),(93,4)],[ZBc],[],[],[],[],[]⟩ [] Tryz.f69 (.two .no (.two .no (.two (.two .no (.two (.cut ⟨⟨[1,8,9],[],[.s 5 (.own 43 (.leaf 3)),.s 10 (.dat (.int .i64))]⟩,[(.exit 0,⟨[],[],[.s 5 (.own 43 (.leaf 3))]⟩)]⟩ .no) .no)) .no))) [.slice (.slice (.leaf 3)),.slice (.leaf 3)] [.slice (.leaf 3)] (m,x)=Zyf m x:=by kernel_rfl
theorem ZHo:Zl Tryz.prog ZEe.1 ZEe.2:=Zp (C:=⟨Tryz.prog,[(39,0),(41,2),(43,3),(91,1),(93,4)],[ZBc],[],[],[],[],[]⟩) ⟨ZAi,trivial⟩ trivial trivial trivial (inl:=[]) trivial (ann:=(.two .no (.two .no (.two (.two .no (.two (.cut ⟨⟨[1,8,9],[],[.s 5 (.own 43 (.leaf 3)),.s 10 (.dat (.int .i64))]⟩,[(.exit 0,⟨[],[],[.s 5 (.own 43 (.leaf 3))]⟩)]⟩ .no) .no)) .no)))) Tryz.func69 (fun _ _=>by kernel_rfl) rfl (fun v vals x z ha hz=>(ZKw x.1 x.2).trans hz)
end Go.Eng
set_option maxRecDepth 100000
set_option maxHeartbeats 4000000
namespace Go.Eng
open Go.Proofs Go.RowKit
noncomputable def Zlf:FuncId×Con:=(85,⟨[.slice (.leaf 3)],[.bool],fun p=>ZKf p⟩)
theorem lnone_i (x : List Rat) : Zm ⟨Tryz.prog, [(39, 0), (41, 2), (43, 3), (91, 1), (93, 4)], [ZVd], [], [], [], [((43, "Sign"), 72)], []⟩ [(132, Tryz.f132, .no), (133, Tryz.f133, .no), (160, Tryz.f160, .cut ⟨⟨[], [], []⟩, [(.ret, ⟨[], [], [.s 1000 (.dat (.int .i64))]⟩)]⟩ (.two .no (.two (.two .no (.two (.cut ⟨⟨[0, 1, 7], [], [.s 8 (.dat (.int .i64))]⟩, [(.exit 0, ⟨[], [], []⟩), (.ret, ⟨[], [], [.s 1000 (.dat (.int .i64))]⟩)]⟩ .no) .no)) .no)))] Tryz.f85 .no [.slice (.leaf 3)] [.bool] (x) = ZKf x := by kernel_rfl
theorem Zbn : Zl Tryz.prog Zlf.1 Zlf.2 := Zp (C := ⟨Tryz.prog, [(39, 0), (41, 2), (43, 3), (91, 1), (93, 4)], [ZVd], [], [], [], [((43, "Sign"), 72)], []⟩) ⟨ZJl, trivial⟩ trivial trivial ⟨Zon, trivial⟩ (inl := [(132, Tryz.f132, .no), (133, Tryz.f133, .no), (160, Tryz.f160, .cut ⟨⟨[], [], []⟩, [(.ret, ⟨[], [], [.s 1000 (.dat (.int .i64))]⟩)]⟩ (.two .no (.two (.two .no (.two (.cut ⟨⟨[0, 1, 7], [], [.s 8 (.dat (.int .i64))]⟩, [(.exit 0, ⟨[], [], []⟩), (.ret, ⟨[], [], [.s 1000 (.dat (.int .i64))]⟩)]⟩ .no) .no)) .no)))]) ⟨⟨Tryz.func132, fun _ _ => by kernel_rfl⟩, ⟨Tryz.func133, fun _ _ => by kernel_rfl⟩, ⟨Tryz.func160, fun _ _ => by kernel_rfl⟩, trivial⟩ (ann := .no) Tryz.func85 (fun _ _ => by kernel_rfl) rfl (fun v vals x z ha hz => (lnone_i x).trans hz)
end Go.Eng
set_option maxRecDepth 100000
set_option maxHeartbeats 4000000
namespace Go.Eng
open Go.Proofs Go.RowKit
noncomputable def Znf:FuncId×Con:=(87,⟨[.slice (.leaf 3),.slice (.leaf 3)],[.bool],fun p=>Zwi p.1 p.2⟩)
theorem Zlu (x : List Rat) (y : List Rat) : Zm ⟨Tryz.prog, [(39, 0), (41, 2), (43, 3), (91, 1), (93, 4)], [Zuh], [], [], [], [((43, "Cmp"), 31)], []⟩ [] Tryz.f87 (.two .no (.two (.two .no (.two (.cut ⟨⟨[0, 1, 7], [], [.s 8 (.dat (.int .i64))]⟩, [(.exit 0, ⟨[], [], []⟩), (.ret, ⟨[], [], [.s 1000 (.dat .bool)]⟩)]⟩ .no) .no)) .no)) [.slice (.leaf 3), .slice (.leaf 3)] [.bool] (x, y) = Zwi x y := by kernel_rfl
theorem Zco : Zl Tryz.prog Znf.1 Znf.2 := Zp (C := ⟨Tryz.prog, [(39, 0), (41, 2), (43, 3), (91, 1), (93, 4)], [Zuh], [], [], [], [((43, "Cmp"), 31)], []⟩) ⟨ZJq, trivial⟩ trivial trivial ⟨Z7p, trivial⟩ (inl := []) trivial (ann := (.two .no (.two (.two .no (.two (.cut ⟨⟨[0, 1, 7], [], [.s 8 (.dat (.int .i64))]⟩, [(.exit 0, ⟨[], [], []⟩), (.ret, ⟨[], [], [.s 1000 (.dat .bool)]⟩)]⟩ .no) .no)) .no))) Tryz.func87 (fun _ _ => by kernel_rfl) rfl (fun v vals x z ha hz => (Zlu x.1 x.2).trans hz)
end Go.Eng
set_option maxRecDepth 100000
set_option maxHeartbeats 4000000
namespace Go.Eng
open Go.Proofs Go.RowKit
noncomputable def ZJk:FuncId×Con:=(83,⟨[.pair (.slice (.slice (.leaf 3))) (.pair (.slice (.leaf 3)) (.slice (.leaf 3))),.slice (.leaf 3)],[.bool],fun p=>Zgo p.1 p.2⟩)
theorem Zrv (p:(List (List Rat))×(List Rat)×(List Rat)) (x:List Rat):Zm ⟨Tryz.prog,[(39,0),(41,2),(43,3),(91,1),(93,4)],[ZEe,Zlf,Znf],[],[],[],[],[]⟩ [] Tryz.f83 (.two .no (.two (.cut ⟨⟨[],[],[]⟩,[(.norm,⟨[],[],[.s 4 (.dat .bool)]⟩)]⟩ .no) .no)) [.pair (.slice (.slice (.leaf 3))) (.pair (.slice (.leaf 3)) (.slice (.leaf 3))),.slice (.leaf 3)] [.bool] (p,x)=Zgo p x:=by kernel_rfl
theorem Z9u:Zl Tryz.prog ZJk.1 ZJk.2:=Zp (C:=⟨Tryz.prog,[(39,0),(41,2),(43,3),(91,1),(93,4)],[ZEe,Zlf,Znf],[],[],[],[],[]⟩) ⟨ZHo,Zbn,Zco,trivial⟩ trivial trivial trivial (inl:=[]) trivial (ann:=(.two .no (.two (.cut ⟨⟨[],[],[]⟩,[(.norm,⟨[],[],[.s 4 (.dat .bool)]⟩)]⟩ .no) .no))) Tryz.func83 (fun _ _=>by kernel_rfl) rfl (fun v vals x z ha hz=>(Zrv x.1 x.2).trans hz)
end Go.Eng
set_option maxRecDepth 100000
set_option maxHeartbeats 4000000
namespace Go.Eng
open Go.Proofs Go.RowKit
noncomputable def ZIg:FuncId×Con:=(86,⟨[.pair (.slice (.slice (.leaf 3))) (.pair (.slice (.leaf 3)) (.slice (.leaf 3))),.slice (.leaf 3)],[.slice (.leaf 3)],fun p=>ZSj p.1 p.2⟩)
theorem psums_i (p : (List (List Rat)) × (List Rat) × (List Rat)) (y : List Rat) : Zm ⟨Tryz.prog, [(39, 0), (41, 2), (43, 3), (91, 1), (93, 4)], [Z4b, ZGc], [], [ZRc], [], [((43, "Add"), 23), ((43, "Mul"), 30)], []⟩ [] Tryz.f86 (.two .no (.two .no (.two (.two .no (.two (.cut ⟨⟨[1, 5, 15, 16], [], [.s 17 (.dat (.int .i64)), .l (.sl 5) (.own 43 (.leaf 3))]⟩, [(.exit 0, ⟨[5], [], [.l (.sl 5) (.own 43 (.leaf 3))]⟩)]⟩ (.two (.two .no (.two .no (.two (.two (.two .no (.two .no (.two (.cut ⟨⟨[1, 5, 6, 15, 16, 17, 22, 23], [], [.s 24 (.dat (.int .i64)), .l (.sl 5) (.own 43 (.leaf 3))]⟩, [(.exit 2, ⟨[1, 5, 15, 16, 17], [], [.l (.sl 5) (.own 43 (.leaf 3))]⟩)]⟩ .no) .no))) .no) .no))) .no)) .no)) .no))) [.pair (.slice (.slice (.leaf 3))) (.pair (.slice (.leaf 3)) (.slice (.leaf 3))), .slice (.leaf 3)] [.slice (.leaf 3)] (p, y) = ZSj p y := by kernel_rfl
theorem Zup : Zl Tryz.prog ZIg.1 ZIg.2 := Zp (C := ⟨Tryz.prog, [(39, 0), (41, 2), (43, 3), (91, 1), (93, 4)], [Z4b, ZGc], [], [ZRc], [], [((43, "Add"), 23), ((43, "Mul"), 30)], []⟩) ⟨Zug, ZTi, trivial⟩ ⟨ZNh, trivial⟩ trivial ⟨ZEm, ZFj, trivial⟩ (inl := []) trivial (ann := (.two .no (.two .no (.two (.two .no (.two (.cut ⟨⟨[1, 5, 15, 16], [], [.s 17 (.dat (.int .i64)), .l (.sl 5) (.own 43 (.leaf 3))]⟩, [(.exit 0, ⟨[5], [], [.l (.sl 5) (.own 43 (.leaf 3))]⟩)]⟩ (.two (.two .no (.two .no (.two (.two (.two .no (.two .no (.two (.cut ⟨⟨[1, 5, 6, 15, 16, 17, 22, 23], [], [.s 24 (.dat (.int .i64)), .l (.sl 5) (.own 43 (.leaf 3))]⟩, [(.exit 2, ⟨[1, 5, 15, 16, 17], [], [.l (.sl 5) (.own 43 (.leaf 3))]⟩)]⟩ .no) .no))) .no) .no))) .no)) .no)) .no)))) Tryz.func86 (fun _ _ => by kernel_rfl) rfl (fun v vals x z ha hz => (psums_i x.1 x.2).trans hz)
end Go.Eng
set_option maxRecDepth 100000
set_option maxHeartbeats 4000000
namespace Go.Eng
open Go.Proofs Go.RowKit
noncomputable def Zcj:FuncId×Con:=(84,⟨[.pair (.slice (.slice (.leaf 3))) (.pair (.slice (.leaf 3)) (.slice (.leaf 3))),.slice (.leaf 3)],[.bool],fun p=>ZXn p.1 p.2⟩)
theorem pdual_i (p:(List (List Rat))×(List Rat)×(List Rat)) (y:List Rat):Zm ⟨Tryz.prog,[(39,0),(41,2),(43,3),(91,1),(93,4)],[Zlf,ZIg,Znf],[],[],[],[],[]⟩ [] Tryz.f84 (.two .no (.two (.cut ⟨⟨[],[],[]⟩,[(.norm,⟨[],[],[.s 4 (.dat .bool)]⟩)]⟩ .no) .no)) [.pair (.slice (.slice (.leaf 3))) (.pair (.slice (.leaf 3)) (.slice (.leaf 3))),.slice (.leaf 3)] [.bool] (p,y)=ZXn p y:=by kernel_rfl
theorem pdual_k:Zl Tryz.prog Zcj.1 Zcj.2:=Zp (C:=⟨Tryz.prog,[(39,0),(41,2),(43,3),(91,1),(93,4)],[Zlf,ZIg,Znf],[],[],[],[],[]⟩) ⟨Zbn,Zup,Zco,trivial⟩ trivial trivial trivial (inl:=[]) trivial (ann:=(.two .no (.two (.cut ⟨⟨[],[],[]⟩,[(.norm,⟨[],[],[.s 4 (.dat .bool)]⟩)]⟩ .no) .no))) Tryz.func84 (fun _ _=>by kernel_rfl) rfl (fun v vals x z ha hz=>(pdual_i x.1 x.2).trans hz)
end Go.Eng
set_option maxRecDepth 100000
set_option maxHeartbeats 4000000
namespace Go.Eng
open Go.Proofs Go.RowKit
noncomputable def Zpk:FuncId×Con:=(39,⟨[.pair (.slice (.slice (.leaf 3))) (.pair (.slice (.leaf 3)) (.slice (.leaf 3))),.pair (.int .i64) (.pair (.leaf 3) (.pair (.slice (.leaf 3)) (.pair (.slice (.leaf 3)) (.slice (.leaf 3)))))],[.bool],fun p=>Zcm p.1 p.2⟩)
theorem Zzw (p : (List (List Rat)) × (List Rat) × (List Rat)) (a : Int × Rat × (List Rat) × (List Rat) × (List Rat)) : Zm ⟨Tryz.prog, [(39, 0), (41, 2), (43, 3), (91, 1), (93, 4)], [Z3b, Z3e, ZBc, ZEe, ZVd, Zth, ZJk, Zcj, Zlf, ZIg, Znf], [], [ZRc], [], [((43, "Same"), 24), ((43, "Sign"), 72), ((43, "Zero"), 22)], []⟩ [] Tryz.f39 (.two .no (.two .no (.two (.cut ⟨⟨[], [], []⟩, [(.norm, ⟨[2, 3], [], [.s 5 (.dat .bool)]⟩)]⟩ .no) (.two (.two .no (.two (.two .no (.two (.two (.cut ⟨⟨[], [], []⟩, [(.norm, ⟨[], [], [.s 4 (.dat .bool)]⟩)]⟩ .no) .no) (.two .no (.two (.two (.cut ⟨⟨[], [], []⟩, [(.norm, ⟨[], [], [.s 4 (.dat .bool)]⟩)]⟩ .no) .no) (.two .no (.two (.two (.two (.cut ⟨⟨[], [], []⟩, [(.norm, ⟨[2, 3], [], [.s 135 (.dat .bool)]⟩)]⟩ .no) .no) (.two (.cut ⟨⟨[], [], []⟩, [(.norm, ⟨[], [], [.s 4 (.dat .bool)]⟩)]⟩ .no) .no)) .no)))))) .no)) .no)))) [.pair (.slice (.slice (.leaf 3))) (.pair (.slice (.leaf 3)) (.slice (.leaf 3))), .pair (.int .i64) (.pair (.leaf 3) (.pair (.slice (.leaf 3)) (.pair (.slice (.leaf 3)) (.slice (.leaf 3)))))] [.bool] (p, a) = Zcm p a := by kernel_rfl
theorem Z6t : Zl Tryz.prog Zpk.1 Zpk.2 := Zp (C := ⟨Tryz.prog, [(39, 0), (41, 2), (43, 3), (91, 1), (93, 4)], [Z3b, Z3e, ZBc, ZEe, ZVd, Zth, ZJk, Zcj, Zlf, ZIg, Znf], [], [ZRc], [], [((43, "Same"), 24), ((43, "Sign"), 72), ((43, "Zero"), 22)], []⟩) ⟨Zbh, Zjn, ZAi, ZHo, ZJl, ZWr, Z9u, pdual_k, Zbn, Zup, Zco, trivial⟩ ⟨ZNh, trivial⟩ trivial ⟨Znw, Zon, Z9i, trivial⟩ (inl := []) trivial (ann := (.two .no (.two .no (.two (.cut ⟨⟨[], [], []⟩, [(.norm, ⟨[2, 3], [], [.s 5 (.dat .bool)]⟩)]⟩ .no) (.two (.two .no (.two (.two .no (.two (.two (.cut ⟨⟨[], [], []⟩, [(.norm, ⟨[], [], [.s 4 (.dat .bool)]⟩)]⟩ .no) .no) (.two .no (.two (.two (.cut ⟨⟨[], [], []⟩, [(.norm, ⟨[], [], [.s 4 (.dat .bool)]⟩)]⟩ .no) .no) (.two .no (.two (.two (.two (.cut ⟨⟨[], [], []⟩, [(.norm, ⟨[2, 3], [], [.s 135 (.dat .bool)]⟩)]⟩ .no) .no) (.two (.cut ⟨⟨[], [], []⟩, [(.norm, ⟨[], [], [.s 4 (.dat .bool)]⟩)]⟩ .no) .no)) .no)))))) .no)) .no))))) Tryz.func39 (fun _ _ => by kernel_rfl) rfl (fun v vals x z ha hz => (Zzw x.1 x.2).trans hz)
end Go.Eng
set_option maxRecDepth 100000
set_option maxHeartbeats 4000000
namespace Go.Eng
open Go.Proofs Go.RowKit
noncomputable def Zwk:FuncId×Con:=(8,⟨[],[.bool],fun _=>ZRf⟩)
theorem ZKx  : Zm ⟨Tryz.prog,[(39,0),(41,2),(43,3),(91,1),(93,4)],[Zef,ZJj,Zmh,Zul,Z3i,ZPk,Zig,Zpk],[],[],[],[],[]⟩ [] Tryz.f8 (.two .no (.two .no (.two .no (.two .no (.two .no (.two .no (.two .no (.two .no (.two (.cut ⟨⟨[],[],[]⟩,[(.norm,⟨[],[],[.s 0 (.dat .bool)]⟩)]⟩ .no) .no))))))))) [] [.bool] ()=ZRf  := by kernel_rfl
theorem Zbx:Zl Tryz.prog Zwk.1 Zwk.2:=Zp (C:=⟨Tryz.prog,[(39,0),(41,2),(43,3),(91,1),(93,4)],[Zef,ZJj,Zmh,Zul,Z3i,ZPk,Zig,Zpk],[],[],[],[],[]⟩) ⟨Z5n,Zdu,ZAq,Z2v,ZVt,ZHs,ZVo,Z6t,trivial⟩ trivial trivial trivial (inl:=[]) trivial (ann:=(.two .no (.two .no (.two .no (.two .no (.two .no (.two .no (.two .no (.two .no (.two (.cut ⟨⟨[],[],[]⟩,[(.norm,⟨[],[],[.s 0 (.dat .bool)]⟩)]⟩ .no) .no)))))))))) Tryz.func8 (fun _ _=>by kernel_rfl) rfl (fun v vals x z ha hz=>(ZKx ).trans hz)
end Go.Eng
set_option maxRecDepth 100000
set_option maxHeartbeats 4000000
namespace Go.Eng
open Go.Proofs Go.RowKit
noncomputable def Zlj:FuncId×Con:=(16,⟨[.slice (.leaf 3),.slice (.leaf 3)],[.bool],fun p=>Z9h p.1 p.2⟩)
theorem Z1v (x:List Rat) (y:List Rat):Zm ⟨Tryz.prog,[(39,0),(41,2),(43,3),(91,1),(93,4)],[Z3e],[],[],[],[],[]⟩ [] Tryz.f16 (.two .no (.two .no (.two (.two .no (.two (.cut ⟨⟨[0,1,12],[],[.s 13 (.dat (.int .i64))]⟩,[(.exit 0,⟨[],[],[]⟩),(.ret,⟨[],[],[.s 1000 (.dat .bool)]⟩)]⟩ .no) .no)) .no))) [.slice (.leaf 3),.slice (.leaf 3)] [.bool] (x,y)=Z9h x y:=by kernel_rfl
theorem ZXw:Zl Tryz.prog Zlj.1 Zlj.2:=Zp (C:=⟨Tryz.prog,[(39,0),(41,2),(43,3),(91,1),(93,4)],[Z3e],[],[],[],[],[]⟩) ⟨Zjn,trivial⟩ trivial trivial trivial (inl:=[]) trivial (ann:=(.two .no (.two .no (.two (.two .no (.two (.cut ⟨⟨[0,1,12],[],[.s 13 (.dat (.int .i64))]⟩,[(.exit 0,⟨[],[],[]⟩),(.ret,⟨[],[],[.s 1000 (.dat .bool)]⟩)]⟩ .no) .no)) .no)))) Tryz.func16 (fun _ _=>by kernel_rfl) rfl (fun v vals x z ha hz=>(Z1v x.1 x.2).trans hz)
end Go.Eng
set_option maxRecDepth 100000
set_option maxHeartbeats 4000000
namespace Go.Eng
open Go.Proofs Go.RowKit
noncomputable def Z7g:FuncId×Con:=(21,⟨[.slice (.leaf 3),.slice (.leaf 3)],[.leaf 3],fun p=>ZVf p.1 p.2⟩)
theorem dot2_i (x:List Rat) (y:List Rat):Zm ⟨Tryz.prog,[(39,0),(41,2),(43,3),(91,1),(93,4)],[Z4b,ZGc],[],[],[],[],[]⟩ [] Tryz.f21 (.two .no (.two .no (.two (.two .no (.two (.cut ⟨⟨[0,1,4,5,8],[],[.s 9 (.dat (.int .i64)),.l (.sl 5) (.box 43 (.dat (.leaf 3)))]⟩,[(.exit 0,⟨[4,5],[],[.l (.sl 5) (.box 43 (.dat (.leaf 3)))]⟩)]⟩ .no) .no)) .no))) [.slice (.leaf 3),.slice (.leaf 3)] [.leaf 3] (x,y)=ZVf x y:=by kernel_rfl
theorem ZKp:Zl Tryz.prog Z7g.1 Z7g.2:=Zp (C:=⟨Tryz.prog,[(39,0),(41,2),(43,3),(91,1),(93,4)],[Z4b,ZGc],[],[],[],[],[]⟩) ⟨Zug,ZTi,trivial⟩ trivial trivial trivial (inl:=[]) trivial (ann:=(.two .no (.two .no (.two (.two .no (.two (.cut ⟨⟨[0,1,4,5,8],[],[.s 9 (.dat (.int .i64)),.l (.sl 5) (.box 43 (.dat (.leaf 3)))]⟩,[(.exit 0,⟨[4,5],[],[.l (.sl 5) (.box 43 (.dat (.leaf 3)))]⟩)]⟩ .no) .no)) .no)))) Tryz.func21 (fun _ _=>by kernel_rfl) rfl (fun v vals x z ha hz=>(dot2_i x.1 x.2).trans hz)
end Go.Eng
set_option maxRecDepth 100000
set_option maxHeartbeats 4000000
namespace Go.Eng
open Go.Proofs Go.RowKit
noncomputable def ZIl:FuncId×ConO:=(17,⟨[.slice (.slice (.leaf 3)),.slice (.leaf 3)],43,.leaf 3,fun p=>ZBf p.1 p.2⟩)
theorem ZMt (m:List (List Rat)) (x:List Rat):Zii ⟨Tryz.prog,[(39,0),(41,2),(43,3),(91,1),(93,4)],[Z7g],[],[],[],[],[]⟩ [] Tryz.f17 (.two .no (.two .no (.two (.two .no (.two (.cut ⟨⟨[0,1,5,11],[],[.s 12 (.dat (.int .i64)),.l (.sl 5) (.own 43 (.leaf 3))]⟩,[(.exit 0,⟨[5],[],[.l (.sl 5) (.own 43 (.leaf 3))]⟩)]⟩ .no) .no)) .no))) [.slice (.slice (.leaf 3)),.slice (.leaf 3)] 43 (.leaf 3) (m,x)=ZBf m x:=by kernel_rfl
theorem Z2w:ZHe Tryz.prog ZIl.1 ZIl.2:=ZYq (C:=⟨Tryz.prog,[(39,0),(41,2),(43,3),(91,1),(93,4)],[Z7g],[],[],[],[],[]⟩) ⟨ZKp,trivial⟩ trivial trivial trivial (inl:=[]) trivial (ann:=(.two .no (.two .no (.two (.two .no (.two (.cut ⟨⟨[0,1,5,11],[],[.s 12 (.dat (.int .i64)),.l (.sl 5) (.own 43 (.leaf 3))]⟩,[(.exit 0,⟨[5],[],[.l (.sl 5) (.own 43 (.leaf 3))]⟩)]⟩ .no) .no)) .no)))) Tryz.func17 (fun _ _=>by kernel_rfl) rfl (fun x z hz=>(ZMt x.1 x.2).trans hz)
end Go.Eng
set_option maxRecDepth 100000
set_option maxHeartbeats 4000000
namespace Go.Eng
open Go.Proofs Go.RowKit
noncomputable def Zpg:FuncId×Con:=(19,⟨[.slice (.slice (.leaf 3)),.slice (.leaf 3)],[.bool,.slice (.leaf 3),.int .i64],fun p=>ZKg p.1 p.2⟩)
theorem ZGu (m : List (List Rat)) (c : List Rat) : Zm ⟨Tryz.prog, [(39, 0), (41, 2), (43, 3), (91, 1), (93, 4)], [Zmh, Z3b, ZIc, ZEb, ZBc], [], [], [], [((43, "Zero"), 22)], []⟩ [] Tryz.f19 (.two .no (.two (.two (.cut ⟨⟨[], [], []⟩, [(.norm, ⟨[0, 1], [], [.s 20 (.dat .bool)]⟩)]⟩ .no) .no) (.two .no (.two (.two .no (.two (.cut ⟨⟨[1, 26, 27], [], [.s 28 (.dat (.int .i64))]⟩, [(.exit 0, ⟨[], [], []⟩), (.ret, ⟨[], [], [.s 1000 (.dat .bool), .s 1001 (.dat (.slice (.leaf 3))), .s 1002 (.dat (.int .i64))]⟩)]⟩ .no) .no)) .no)))) [.slice (.slice (.leaf 3)), .slice (.leaf 3)] [.bool, .slice (.leaf 3), .int .i64] (m, c) = ZKg m c := by kernel_rfl
theorem ZTr : Zl Tryz.prog Zpg.1 Zpg.2 := Zp (C := ⟨Tryz.prog, [(39, 0), (41, 2), (43, 3), (91, 1), (93, 4)], [Zmh, Z3b, ZIc, ZEb, ZBc], [], [], [], [((43, "Zero"), 22)], []⟩) ⟨ZAq, Zbh, ZSh, ZTf, ZAi, trivial⟩ trivial trivial ⟨Z9i, trivial⟩ (inl := []) trivial (ann := (.two .no (.two (.two (.cut ⟨⟨[], [], []⟩, [(.norm, ⟨[0, 1], [], [.s 20 (.dat .bool)]⟩)]⟩ .no) .no) (.two .no (.two (.two .no (.two (.cut ⟨⟨[1, 26, 27], [], [.s 28 (.dat (.int .i64))]⟩, [(.exit 0, ⟨[], [], []⟩), (.ret, ⟨[], [], [.s 1000 (.dat .bool), .s 1001 (.dat (.slice (.leaf 3))), .s 1002 (.dat (.int .i64))]⟩)]⟩ .no) .no)) .no))))) Tryz.func19 (fun _ _ => by kernel_rfl) rfl (fun v vals x z ha hz => (ZGu x.1 x.2).trans hz)
end Go.Eng
set_option maxRecDepth 100000
set_option maxHeartbeats 4000000
namespace Go.Eng
open Go.Proofs Go.RowKit
noncomputable def ZUk:FuncId×Con:=(51,⟨[.slice (.slice (.leaf 3)),.slice (.slice (.leaf 3))],[.slice (.slice (.leaf 3))],fun p=>ZEh p.1 p.2⟩)
theorem Zyw (m:List (List Rat)) (b:List (List Rat)):Zm ⟨Tryz.prog,[(39,0),(41,2),(43,3),(91,1),(93,4)],[],[8],[Zud],[],[],[]⟩ [(95,Tryz.f95,.two .no (.two .no (.two (.two .no (.two (.cut ⟨⟨[3,9,10],[],[.s 11 (.dat (.int .i64)),.l (.sl 3) (.mat 30 43 (.leaf 3))]⟩,[(.exit 0,⟨[3],[],[.l (.sl 3) (.mat 30 43 (.leaf 3))]⟩)]⟩ .no) .no)) .no)))] Tryz.f51 (.two .no (.two .no (.two (.two .no (.two (.cut ⟨⟨[1,5,10],[],[.s 11 (.dat (.int .i64)),.l (.sl 5) (.mat 30 43 (.leaf 3))]⟩,[(.exit 0,⟨[5],[],[.l (.sl 5) (.mat 30 43 (.leaf 3))]⟩)]⟩ .no) .no)) .no))) [.slice (.slice (.leaf 3)),.slice (.slice (.leaf 3))] [.slice (.slice (.leaf 3))] (m,b)=ZEh m b:=by kernel_rfl
theorem Zhx:Zl Tryz.prog ZUk.1 ZUk.2:=Zp (C:=⟨Tryz.prog,[(39,0),(41,2),(43,3),(91,1),(93,4)],[],[8],[Zud],[],[],[]⟩) trivial ⟨Z5i,trivial⟩ trivial trivial (inl:=[(95,Tryz.f95,.two .no (.two .no (.two (.two .no (.two (.cut ⟨⟨[3,9,10],[],[.s 11 (.dat (.int .i64)),.l (.sl 3) (.mat 30 43 (.leaf 3))]⟩,[(.exit 0,⟨[3],[],[.l (.sl 3) (.mat 30 43 (.leaf 3))]⟩)]⟩ .no) .no)) .no)))]) ⟨⟨Tryz.func95,fun _ _=>by kernel_rfl⟩,trivial⟩ (ann:=(.two .no (.two .no (.two (.two .no (.two (.cut ⟨⟨[1,5,10],[],[.s 11 (.dat (.int .i64)),.l (.sl 5) (.mat 30 43 (.leaf 3))]⟩,[(.exit 0,⟨[5],[],[.l (.sl 5) (.mat 30 43 (.leaf 3))]⟩)]⟩ .no) .no)) .no)))) Tryz.func51 (fun _ _=>by kernel_rfl) rfl (fun v vals x z ha hz=>(Zyw x.1 x.2).trans hz)
end Go.Eng
set_option maxRecDepth 100000
set_option maxHeartbeats 4000000
namespace Go.Eng
open Go.Proofs Go.RowKit
noncomputable def ZTk:FuncId×Con:=(52,⟨[.slice (.leaf 3)],[.slice (.slice (.leaf 3))],fun p=>ZBh p⟩)
theorem Z6v (b:List Rat):Zm ⟨Tryz.prog,[(39,0),(41,2),(43,3),(91,1),(93,4)],[],[8],[],[],[],[]⟩ [] Tryz.f52 (.two .no (.two .no (.two (.two .no (.two (.cut ⟨⟨[3,9,10],[],[.s 11 (.dat (.int .i64)),.l (.sl 3) (.mat 30 43 (.leaf 3))]⟩,[(.exit 0,⟨[3],[],[.l (.sl 3) (.mat 30 43 (.leaf 3))]⟩)]⟩ .no) .no)) .no))) [.slice (.leaf 3)] [.slice (.slice (.leaf 3))] (b)=ZBh b:=by kernel_rfl
theorem Zfv:Zl Tryz.prog ZTk.1 ZTk.2:=Zp (C:=⟨Tryz.prog,[(39,0),(41,2),(43,3),(91,1),(93,4)],[],[8],[],[],[],[]⟩) trivial trivial trivial trivial (inl:=[]) trivial (ann:=(.two .no (.two .no (.two (.two .no (.two (.cut ⟨⟨[3,9,10],[],[.s 11 (.dat (.int .i64)),.l (.sl 3) (.mat 30 43 (.leaf 3))]⟩,[(.exit 0,⟨[3],[],[.l (.sl 3) (.mat 30 43 (.leaf 3))]⟩)]⟩ .no) .no)) .no)))) Tryz.func52 (fun _ _=>by kernel_rfl) rfl (fun v vals x z ha hz=>(Z6v x).trans hz)
end Go.Eng
set_option maxRecDepth 100000
set_option maxHeartbeats 4000000
namespace Go.Eng
open Go.Proofs Go.RowKit
noncomputable def Zrk:FuncId×Con:=(18,⟨[.slice (.slice (.leaf 3)),.slice (.leaf 3)],[.slice (.leaf 3),.int .i64],fun p=>Zhf p.1 p.2⟩)
theorem Any_i (m:List (List Rat)) (b:List Rat):Zm ⟨Tryz.prog,[(39,0),(41,2),(43,3),(91,1),(93,4)],[ZIc,Zmf,ZEb,Z7b,ZUk,ZTk],[],[Z5e],[],[],[]⟩ [(49,Tryz.f49,.no)] Tryz.f18 (.two .no (.two (.two (.cut ⟨⟨[],[],[]⟩,[(.norm,⟨[0,1],[],[.s 23 (.dat .bool)]⟩)]⟩ .no) .no) (.two .no (.two .no (.two (.two .no (.two (.cut ⟨⟨[],[],[]⟩,[(.norm,⟨[6,7,8],[],[.s 47 (.dat .bool)]⟩)]⟩ .no) .no)) (.two .no (.two (.two .no (.two (.cut ⟨⟨[6,7,11,50,51],[],[.s 52 (.dat (.int .i64)),.l (.sl 11) (.own 43 (.leaf 3))]⟩,[(.exit 0,⟨[11],[],[.l (.sl 11) (.own 43 (.leaf 3))]⟩)]⟩ .no) .no)) .no))))))) [.slice (.slice (.leaf 3)),.slice (.leaf 3)] [.slice (.leaf 3),.int .i64] (m,b)=Zhf m b:=by kernel_rfl
theorem Any_k:Zl Tryz.prog Zrk.1 Zrk.2:=Zp (C:=⟨Tryz.prog,[(39,0),(41,2),(43,3),(91,1),(93,4)],[ZIc,Zmf,ZEb,Z7b,ZUk,ZTk],[],[Z5e],[],[],[]⟩) ⟨ZSh,Zzo,ZTf,Zih,Zhx,Zfv,trivial⟩ ⟨Zfo,trivial⟩ trivial trivial (inl:=[(49,Tryz.f49,.no)]) ⟨⟨Tryz.func49,fun _ _=>by kernel_rfl⟩,trivial⟩ (ann:=(.two .no (.two (.two (.cut ⟨⟨[],[],[]⟩,[(.norm,⟨[0,1],[],[.s 23 (.dat .bool)]⟩)]⟩ .no) .no) (.two .no (.two .no (.two (.two .no (.two (.cut ⟨⟨[],[],[]⟩,[(.norm,⟨[6,7,8],[],[.s 47 (.dat .bool)]⟩)]⟩ .no) .no)) (.two .no (.two (.two .no (.two (.cut ⟨⟨[6,7,11,50,51],[],[.s 52 (.dat (.int .i64)),.l (.sl 11) (.own 43 (.leaf 3))]⟩,[(.exit 0,⟨[11],[],[.l (.sl 11) (.own 43 (.leaf 3))]⟩)]⟩ .no) .no)) .no)))))))) Tryz.func18 (fun _ _=>by kernel_rfl) rfl (fun v vals x z ha hz=>(Any_i x.1 x.2).trans hz)
end Go.Eng
set_option maxRecDepth 100000
set_option maxHeartbeats 4000000
namespace Go.Eng
open Go.Proofs Go.RowKit
noncomputable def Zoj:FuncId×Con:=(212,⟨[.leaf 3],[.leaf 3],fun p=>Zin p⟩)
theorem qconj_i (x:Rat):Zm ⟨Tryz.prog,[(39,0),(41,2),(43,3),(91,1),(93,4)],[],[],[],[],[],[]⟩ [] Tryz.f212 .no [.leaf 3] [.leaf 3] (x)=Zin x:=by kernel_rfl
theorem qconj_k:Zl Tryz.prog Zoj.1 Zoj.2:=Zp (C:=⟨Tryz.prog,[(39,0),(41,2),(43,3),(91,1),(93,4)],[],[],[],[],[],[]⟩) trivial trivial trivial trivial (inl:=[]) trivial (ann:=.no) Tryz.func212 (fun _ _=>by kernel_rfl) rfl (fun v vals x z ha hz=>(qconj_i x).trans hz)
end Go.Eng
set_option maxRecDepth 100000
set_option maxHeartbeats 4000000
namespace Go.Eng
open Go.Proofs Go.RowKit
noncomputable def Z9k:FuncId×Con:=(46,⟨[.leaf 3],[.leaf 3],fun p=>Zdk p⟩)
theorem lconj_i (x : Rat) : Zm ⟨Tryz.prog, [(39, 0), (41, 2), (43, 3), (91, 1), (93, 4)], [Zoj], [], [], [], [((43, "Conj"), 212)], []⟩ [] Tryz.f46 .no [.leaf 3] [.leaf 3] (x) = Zdk x := by kernel_rfl
theorem lconj_k : Zl Tryz.prog Z9k.1 Z9k.2 := Zp (C := ⟨Tryz.prog, [(39, 0), (41, 2), (43, 3), (91, 1), (93, 4)], [Zoj], [], [], [], [((43, "Conj"), 212)], []⟩) ⟨qconj_k, trivial⟩ trivial trivial ⟨Zts, trivial⟩ (inl := []) trivial (ann := .no) Tryz.func46 (fun _ _ => by kernel_rfl) rfl (fun v vals x z ha hz => (lconj_i x).trans hz)
end Go.Eng
set_option maxRecDepth 100000
set_option maxHeartbeats 4000000
namespace Go.Eng
open Go.Proofs Go.RowKit
noncomputable def Z4i:FuncId×Con:=(140,⟨[.leaf 3],[.leaf 3],fun p=>ZVi p⟩)
theorem Zns (x:Rat):Zm ⟨Tryz.prog,[(39,0),(41,2),(43,3),(91,1),(93,4)],[],[],[],[],[],[]⟩ [] Tryz.f140 .no [.leaf 3] [.leaf 3] (x)=ZVi x:=by kernel_rfl
theorem Zzx:Zl Tryz.prog Z4i.1 Z4i.2:=Zp (C:=⟨Tryz.prog,[(39,0),(41,2),(43,3),(91,1),(93,4)],[],[],[],[],[],[]⟩) trivial trivial trivial trivial (inl:=[]) trivial (ann:=.no) Tryz.func140 (fun _ _=>by kernel_rfl) rfl (fun v vals x z ha hz=>(Zns x).trans hz)
end Go.Eng
set_option maxRecDepth 100000
set_option maxHeartbeats 4000000
namespace Go.Eng
open Go.Proofs Go.RowKit
noncomputable def Z6i:FuncId×Con:=(98,⟨[.slice (.slice (.leaf 3)),.slice (.slice (.leaf 3))],[.slice (.slice (.leaf 3))],fun p=>ZDh p.1 p.2⟩)
theorem ZBx (a:List (List Rat)) (b:List (List Rat)):Zm ⟨Tryz.prog,[(39,0),(41,2),(43,3),(91,1),(93,4)],[ZEb,ZBc,Z4i],[12,15],[],[],[],[]⟩ [(45,Tryz.f45,.cut ⟨⟨[],[],[]⟩,[(.ret,⟨[],[],[.s 1000 (.dat (.slice (.slice (.leaf 3))))]⟩)]⟩ (.two .no (.two .no (.two (.two .no (.two (.cut ⟨⟨[1,5,13,14],[],[.s 15 (.dat (.int .i64)),.l (.sl 5) (.mat 30 43 (.leaf 3))]⟩,[(.exit 0,⟨[5],[],[.l (.sl 5) (.mat 30 43 (.leaf 3))]⟩)]⟩ (.two (.two .no (.two .no (.two (.two (.two .no (.two .no (.two (.cut ⟨⟨[1,5,13,14,15,19,20],[],[.s 21 (.dat (.int .i64)),.l (.sl 5) (.mat 30 43 (.leaf 3))]⟩,[(.exit 2,⟨[1,5,13,14,15],[],[.l (.sl 5) (.mat 30 43 (.leaf 3))]⟩)]⟩ .no) .no))) .no) .no))) .no)) .no)) .no))))] Tryz.f98 (.two .no (.two .no (.two .no (.two (.two .no (.two (.cut ⟨⟨[5,6,16,17],[],[.s 18 (.dat (.int .i64)),.l (.sl 6) (.mat 30 43 (.leaf 3))]⟩,[(.exit 0,⟨[6],[],[.l (.sl 6) (.mat 30 43 (.leaf 3))]⟩)]⟩ (.two (.two .no (.two .no (.two (.two (.two .no (.two .no (.two (.cut ⟨⟨[5,6,7,8,16,17,18,23,24],[],[.s 25 (.dat (.int .i64)),.l (.sl 6) (.mat 30 43 (.leaf 3))]⟩,[(.exit 2,⟨[5,6,16,17,18],[],[.l (.sl 6) (.mat 30 43 (.leaf 3))]⟩)]⟩ .no) .no))) .no) .no))) .no)) .no)) .no)))) [.slice (.slice (.leaf 3)),.slice (.slice (.leaf 3))] [.slice (.slice (.leaf 3))] (a,b)=ZDh a b:=by kernel_rfl
theorem ZAt:Zl Tryz.prog Z6i.1 Z6i.2:=Zp (C:=⟨Tryz.prog,[(39,0),(41,2),(43,3),(91,1),(93,4)],[ZEb,ZBc,Z4i],[12,15],[],[],[],[]⟩) ⟨ZTf,ZAi,Zzx,trivial⟩ trivial trivial trivial (inl:=[(45,Tryz.f45,.cut ⟨⟨[],[],[]⟩,[(.ret,⟨[],[],[.s 1000 (.dat (.slice (.slice (.leaf 3))))]⟩)]⟩ (.two .no (.two .no (.two (.two .no (.two (.cut ⟨⟨[1,5,13,14],[],[.s 15 (.dat (.int .i64)),.l (.sl 5) (.mat 30 43 (.leaf 3))]⟩,[(.exit 0,⟨[5],[],[.l (.sl 5) (.mat 30 43 (.leaf 3))]⟩)]⟩ (.two (.two .no (.two .no (.two (.two (.two .no (.two .no (.two (.cut ⟨⟨[1,5,13,14,15,19,20],[],[.s 21 (.dat (.int .i64)),.l (.sl 5) (.mat 30 43 (.leaf 3))]⟩,[(.exit 2,⟨[1,5,13,14,15],[],[.l (.sl 5) (.mat 30 43 (.leaf 3))]⟩)]⟩ .no) .no))) .no) .no))) .no)) .no)) .no))))]) ⟨⟨Tryz.func45,fun _ _=>by kernel_rfl⟩,trivial⟩ (ann:=(.two .no (.two .no (.two .no (.two (.two .no (.two (.cut ⟨⟨[5,6,16,17],[],[.s 18 (.dat (.int .i64)),.l (.sl 6) (.mat 30 43 (.leaf 3))]⟩,[(.exit 0,⟨[6],[],[.l (.sl 6) (.mat 30 43 (.leaf 3))]⟩)]⟩ (.two (.two .no (.two .no (.two (.two (.two .no (.two .no (.two (.cut ⟨⟨[5,6,7,8,16,17,18,23,24],[],[.s 25 (.dat (.int .i64)),.l (.sl 6) (.mat 30 43 (.leaf 3))]⟩,[(.exit 2,⟨[5,6,16,17,18],[],[.l (.sl 6) (.mat 30 43 (.leaf 3))]⟩)]⟩ .no) .no))) .no) .no))) .no)) .no)) .no))))) Tryz.func98 (fun _ _=>by kernel_rfl) rfl (fun v vals x z ha hz=>(ZBx x.1 x.2).trans hz)
end Go.Eng
set_option maxRecDepth 100000
set_option maxHeartbeats 4000000
namespace Go.Eng
open Go.Proofs Go.RowKit
noncomputable def ZWl:FuncId×Con:=(54,⟨[.slice (.slice (.leaf 3)),.slice (.leaf 3)],[.slice (.slice (.leaf 3)),.slice (.leaf 3)],fun p=>ZUi p.1 p.2⟩)
theorem ZFu (m:List (List Rat)) (b:List Rat):Zm ⟨Tryz.prog,[(39,0),(41,2),(43,3),(91,1),(93,4)],[Z9k,ZEb,ZEe,Z6i],[12],[],[],[],[]⟩ [(45,Tryz.f45,.cut ⟨⟨[],[],[]⟩,[(.ret,⟨[],[],[.s 1000 (.dat (.slice (.slice (.leaf 3))))]⟩)]⟩ (.two .no (.two .no (.two (.two .no (.two (.cut ⟨⟨[1,5,13,14],[],[.s 15 (.dat (.int .i64)),.l (.sl 5) (.mat 30 43 (.leaf 3))]⟩,[(.exit 0,⟨[5],[],[.l (.sl 5) (.mat 30 43 (.leaf 3))]⟩)]⟩ (.two (.two .no (.two .no (.two (.two (.two .no (.two .no (.two (.cut ⟨⟨[1,5,13,14,15,19,20],[],[.s 21 (.dat (.int .i64)),.l (.sl 5) (.mat 30 43 (.leaf 3))]⟩,[(.exit 2,⟨[1,5,13,14,15],[],[.l (.sl 5) (.mat 30 43 (.leaf 3))]⟩)]⟩ .no) .no))) .no) .no))) .no)) .no)) .no))))] Tryz.f54 .no [.slice (.slice (.leaf 3)),.slice (.leaf 3)] [.slice (.slice (.leaf 3)),.slice (.leaf 3)] (m,b)=ZUi m b:=by kernel_rfl
theorem Znx:Zl Tryz.prog ZWl.1 ZWl.2:=Zp (C:=⟨Tryz.prog,[(39,0),(41,2),(43,3),(91,1),(93,4)],[Z9k,ZEb,ZEe,Z6i],[12],[],[],[],[]⟩) ⟨lconj_k,ZTf,ZHo,ZAt,trivial⟩ trivial trivial trivial (inl:=[(45,Tryz.f45,.cut ⟨⟨[],[],[]⟩,[(.ret,⟨[],[],[.s 1000 (.dat (.slice (.slice (.leaf 3))))]⟩)]⟩ (.two .no (.two .no (.two (.two .no (.two (.cut ⟨⟨[1,5,13,14],[],[.s 15 (.dat (.int .i64)),.l (.sl 5) (.mat 30 43 (.leaf 3))]⟩,[(.exit 0,⟨[5],[],[.l (.sl 5) (.mat 30 43 (.leaf 3))]⟩)]⟩ (.two (.two .no (.two .no (.two (.two (.two .no (.two .no (.two (.cut ⟨⟨[1,5,13,14,15,19,20],[],[.s 21 (.dat (.int .i64)),.l (.sl 5) (.mat 30 43 (.leaf 3))]⟩,[(.exit 2,⟨[1,5,13,14,15],[],[.l (.sl 5) (.mat 30 43 (.leaf 3))]⟩)]⟩ .no) .no))) .no) .no))) .no)) .no)) .no))))]) ⟨⟨Tryz.func45,fun _ _=>by kernel_rfl⟩,trivial⟩ (ann:=.no) Tryz.func54 (fun _ _=>by kernel_rfl) rfl (fun v vals x z ha hz=>(ZFu x.1 x.2).trans hz)
end Go.Eng
set_option maxRecDepth 100000
set_option maxHeartbeats 4000000
namespace Go.Eng
open Go.Proofs Go.RowKit
noncomputable def ZYl:FuncId×Con:=(20,⟨[.slice (.slice (.leaf 3)),.slice (.leaf 3),.slice (.leaf 3)],[.leaf 3,.int .i64],fun p=>ZTe p.1 p.2.1 p.2.2⟩)
theorem ZOv (m:List (List Rat)) (b:List Rat) (c:List Rat):Zm ⟨Tryz.prog,[(39,0),(41,2),(43,3),(91,1),(93,4)],[Zrk,Zpg,ZIc,ZEb,ZBc,ZWl],[],[],[],[],[]⟩ [] Tryz.f20 (.two .no (.two .no (.two (.two (.cut ⟨⟨[],[],[]⟩,[(.norm,⟨[0,1,2,6,8],[],[.s 30 (.dat .bool)]⟩)]⟩ .no) .no) .no))) [.slice (.slice (.leaf 3)),.slice (.leaf 3),.slice (.leaf 3)] [.leaf 3,.int .i64] (m,b,c)=ZTe m b c:=by kernel_rfl
theorem Zis:Zl Tryz.prog ZYl.1 ZYl.2:=Zp (C:=⟨Tryz.prog,[(39,0),(41,2),(43,3),(91,1),(93,4)],[Zrk,Zpg,ZIc,ZEb,ZBc,ZWl],[],[],[],[],[]⟩) ⟨Any_k,ZTr,ZSh,ZTf,ZAi,Znx,trivial⟩ trivial trivial trivial (inl:=[]) trivial (ann:=(.two .no (.two .no (.two (.two (.cut ⟨⟨[],[],[]⟩,[(.norm,⟨[0,1,2,6,8],[],[.s 30 (.dat .bool)]⟩)]⟩ .no) .no) .no)))) Tryz.func20 (fun _ _=>by kernel_rfl) rfl (fun v vals x z ha hz=>(ZOv x.1 x.2.1 x.2.2).trans hz)
end Go.Eng
set_option maxRecDepth 100000
set_option maxHeartbeats 4000000
namespace Go.Eng
open Go.Proofs Go.RowKit
theorem Zux (m:List (List (Int×Int))) (x:List (Int×Int)) (c:List (Int×Int)) (b:List (Int×Int)):Zm ⟨Tryz.prog,[(39,0),(41,2),(43,3),(91,1),(93,4)],[ZTl,Zwk,Zef,ZJe,Zlj,Zpg,ZYl,Z7g,Z3b,Z4b,Z3e],[],[ZIl],[],[],[]⟩ [] Tryz.f4 (.two .no (.two (.two (.cut ⟨⟨[],[],[]⟩,[(.norm,⟨[0,1,2,3],[],[.s 56 (.dat .bool)]⟩)]⟩ .no) .no) (.two .no (.two .no (.two .no (.two .no (.two .no (.two .no (.two .no (.two (.two .no (.two (.two (.cut ⟨⟨[],[],[]⟩,[(.norm,⟨[],[],[.s 8 (.dat .bool)]⟩)]⟩ .no) .no) .no)) (.two .no (.two (.two .no (.two (.cut ⟨⟨[9,11,13,15,18,20,21,22,130],[],[.s 131 (.dat (.int .i64)),.l (.sl 22) (.own 43 (.leaf 3))]⟩,[(.exit 0,⟨[9,11,13,15,18,20,21,22],[],[.l (.sl 22) (.own 43 (.leaf 3))]⟩)]⟩ .no) .no)) (.two .no (.two .no (.two (.cut ⟨⟨[],[],[]⟩,[(.norm,⟨[],[],[.s 8 (.dat .bool)]⟩)]⟩ .no) .no))))))))))))))) [.slice (.slice (.pair (.int .i64) (.int .i64))),.slice (.pair (.int .i64) (.int .i64)),.slice (.pair (.int .i64) (.int .i64)),.slice (.pair (.int .i64) (.int .i64))] [.bool] (m,x,c,b)=ZFl m x c b:=by kernel_rfl
theorem ZBu {w0:World} {v0:Zb} (hv:VIn v0 w0) {c0:List Value} {m:(List (List (Int×Int)))} (p0:Rep.rel (Zu (Zu (ZBa (Zd .i64) (Zd .i64)))) v0 c0 m) {c1:List Value} {x:(List (Int×Int))} (p1:Rep.rel (Zu (ZBa (Zd .i64) (Zd .i64))) v0 c1 x) {c2:List Value} {c:(List (Int×Int))} (p2:Rep.rel (Zu (ZBa (Zd .i64) (Zd .i64))) v0 c2 c) {c3:List Value} {b:(List (Int×Int))} (p3:Rep.rel (Zu (ZBa (Zd .i64) (Zd .i64))) v0 c3 b) {z:Bool} (hm:ZFl m x c b=some z):Ret Tryz.prog 4 #[(Zu (Zu (ZBa (Zd .i64) (Zd .i64)))).val c0,(Zu (ZBa (Zd .i64) (Zd .i64))).val c1,(Zu (ZBa (Zd .i64) (Zd .i64))).val c2,(Zu (ZBa (Zd .i64) (Zd .i64))).val c3] w0 v0 (fun y v'=>∃ r0,y=Zdd.val r0∧Zdd.rel v' r0 z):=(ZRn (C:=⟨Tryz.prog,[(39,0),(41,2),(43,3),(91,1),(93,4)],[ZTl,Zwk,Zef,ZJe,Zlj,Zpg,ZYl,Z7g,Z3b,Z4b,Z3e],[],[ZIl],[],[],[]⟩) (CfOK.of ⟨fits2_k,Zbx,Z5n,Zbm,ZXw,ZTr,Zis,ZKp,Zbh,Zug,Zjn,trivial⟩ ⟨Z2w,trivial⟩ trivial trivial) (inl:=[]) (ZMc.of trivial) (ann:=(.two .no (.two (.two (.cut ⟨⟨[],[],[]⟩,[(.norm,⟨[0,1,2,3],[],[.s 56 (.dat .bool)]⟩)]⟩ .no) .no) (.two .no (.two .no (.two .no (.two .no (.two .no (.two .no (.two .no (.two (.two .no (.two (.two (.cut ⟨⟨[],[],[]⟩,[(.norm,⟨[],[],[.s 8 (.dat .bool)]⟩)]⟩ .no) .no) .no)) (.two .no (.two (.two .no (.two (.cut ⟨⟨[9,11,13,15,18,20,21,22,130],[],[.s 131 (.dat (.int .i64)),.l (.sl 22) (.own 43 (.leaf 3))]⟩,[(.exit 0,⟨[9,11,13,15,18,20,21,22],[],[.l (.sl 22) (.own 43 (.leaf 3))]⟩)]⟩ .no) .no)) (.two .no (.two .no (.two (.cut ⟨⟨[],[],[]⟩,[(.norm,⟨[],[],[.s 8 (.dat .bool)]⟩)]⟩ .no) .no)))))))))))))))) (ats:=[.slice (.slice (.pair (.int .i64) (.int .i64))),.slice (.pair (.int .i64) (.int .i64)),.slice (.pair (.int .i64) (.int .i64)),.slice (.pair (.int .i64) (.int .i64))]) (rts:=[.bool]) (x:=(m,x,c,b)) (vals:=[(Zu (Zu (ZBa (Zd .i64) (Zd .i64)))).val c0,(Zu (ZBa (Zd .i64) (Zd .i64))).val c1,(Zu (ZBa (Zd .i64) (Zd .i64))).val c2,(Zu (ZBa (Zd .i64) (Zd .i64))).val c3]) Tryz.func4 rfl ((Zux m x c b).trans hm) hv ⟨c0,_,rfl,p0,c1,_,rfl,p1,c2,_,rfl,p2,c3,rfl,p3⟩).mono fun y v' _ h=>h
end Go.Eng
