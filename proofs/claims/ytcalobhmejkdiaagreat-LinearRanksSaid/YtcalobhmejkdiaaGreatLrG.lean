/- Lemmas towards the statement: the engine of the walks, the functions' models, laws and walks, part 7. Conditions: as each states. -/
import Derived.Test.YtcalobhmejkdiaaGreatProg
import Derived.Test.YtcalobhmejkdiaaGreatLrF
set_option linter.all false
set_option maxRecDepth 100000
set_option maxRecDepth 100000
set_option maxHeartbeats 4000000
namespace Go.Eng
open Go.Proofs Go.RowKit
noncomputable def Z4f:FuncId×Con:=(80,⟨[.pair (.slice (.slice (.leaf 3))) (.pair (.slice (.leaf 3)) (.slice (.leaf 3)))],[.int .i64],fun p=>Zbl p⟩)
theorem Z5r (p:(List (List Rat))×(List Rat)×(List Rat)):Zm ⟨Tryz.prog,[(39,0),(41,2),(43,3),(91,1),(93,4)],[],[],[],[],[],[]⟩ [(93,Tryz.f93,.no),(121,Tryz.f121,.no),(137,Tryz.f137,.cut ⟨⟨[],[],[]⟩,[(.ret,⟨[],[],[.s 1000 (.dat (.int .i64))]⟩)]⟩ (.two .no (.two (.two .no (.two (.cut ⟨⟨[0,1,7],[],[.s 8 (.dat (.int .i64))]⟩,[(.exit 0,⟨[],[],[]⟩),(.ret,⟨[],[],[.s 1000 (.dat (.int .i64))]⟩)]⟩ .no) .no)) .no)))] Tryz.f80 (.two .no (.two (.two (.cut ⟨⟨[],[],[]⟩,[(.norm,⟨[],[],[.s 27 (.dat .bool)]⟩)]⟩ .no) .no) .no)) [.pair (.slice (.slice (.leaf 3))) (.pair (.slice (.leaf 3)) (.slice (.leaf 3)))] [.int .i64] (p)=Zbl p:=by kernel_rfl
theorem Zqp:Zk Tryz.prog Z4f.1 Z4f.2:=Zp (C:=⟨Tryz.prog,[(39,0),(41,2),(43,3),(91,1),(93,4)],[],[],[],[],[],[]⟩) trivial trivial trivial trivial (inl:=[(93,Tryz.f93,.no),(121,Tryz.f121,.no),(137,Tryz.f137,.cut ⟨⟨[],[],[]⟩,[(.ret,⟨[],[],[.s 1000 (.dat (.int .i64))]⟩)]⟩ (.two .no (.two (.two .no (.two (.cut ⟨⟨[0,1,7],[],[.s 8 (.dat (.int .i64))]⟩,[(.exit 0,⟨[],[],[]⟩),(.ret,⟨[],[],[.s 1000 (.dat (.int .i64))]⟩)]⟩ .no) .no)) .no)))]) ⟨⟨Tryz.func93,fun _ _=>by kernel_rfl⟩,⟨Tryz.func121,fun _ _=>by kernel_rfl⟩,⟨Tryz.func137,fun _ _=>by kernel_rfl⟩,trivial⟩ (ann:=(.two .no (.two (.two (.cut ⟨⟨[],[],[]⟩,[(.norm,⟨[],[],[.s 27 (.dat .bool)]⟩)]⟩ .no) .no) .no))) Tryz.func80 (fun _ _=>by kernel_rfl) rfl (fun v vals x z ha hz=>(Z5r x).trans hz)
end Go.Eng
set_option maxRecDepth 100000
set_option maxHeartbeats 4000000
namespace Go.Eng
open Go.Proofs Go.RowKit
noncomputable def ZNi:FuncId×Con:=(118,⟨[.leaf 2],[.int .i64],fun p=>ZNh p⟩)
theorem isign_i (x:Int):Zm ⟨Tryz.prog,[(39,0),(41,2),(43,3)],[],[],[],[],[],[]⟩ [] Tryz.f118 .no [.leaf 2] [.int .i64] (x)=Z6l x:=by kernel_rfl
theorem isign_k:Zk Tryz.prog ZNi.1 ZNi.2:=Zp (C:=⟨Tryz.prog,[(39,0),(41,2),(43,3)],[],[],[],[],[],[]⟩) trivial trivial trivial trivial (inl:=[]) trivial (ann:=.no) Tryz.func118 (fun _ _=>by kernel_rfl) rfl fun v vals x z ha hz=>(isign_i x).trans (Z7s hz)
end Go.Eng
set_option maxRecDepth 100000
set_option maxHeartbeats 4000000
namespace Go.Eng
open Go.Proofs Go.RowKit
noncomputable def ZKd:FuncId×Con:=(72,⟨[.leaf 3],[.int .i64],fun p=>ZLc p⟩)
theorem qsign_i (x:Rat):Zm ⟨Tryz.prog,[(39,0),(41,2),(43,3)],[ZNi],[],[],[],[],[]⟩ [] Tryz.f72 .no [.leaf 3] [.int .i64] (x)=Zjn x:=by kernel_rfl
theorem Z0j:Zk Tryz.prog ZKd.1 ZKd.2:=Zp (C:=⟨Tryz.prog,[(39,0),(41,2),(43,3)],[ZNi],[],[],[],[],[]⟩) ⟨isign_k,trivial⟩ trivial trivial trivial (inl:=[]) trivial (ann:=.no) Tryz.func72 (fun _ _=>by kernel_rfl) rfl fun v vals x z ha hz=>(qsign_i x).trans (Zpw hz)
end Go.Eng
set_option maxRecDepth 100000
set_option maxHeartbeats 4000000
namespace Go.Eng
open Go.Proofs Go.RowKit
noncomputable def Zgg:FuncId×Con:=(31,⟨[.leaf 3,.leaf 3],[.int .i64],fun p=>Zsg p.1 p.2⟩)
theorem qcmp_i (x:Rat) (y:Rat):Zm ⟨Tryz.prog,[(39,0),(41,2),(43,3)],[ZJe,ZKd],[],[],[],[],[]⟩ [] Tryz.f31 .no [.leaf 3,.leaf 3] [.int .i64] (x,y)=Zeo x y:=by kernel_rfl
theorem ZIo:Zk Tryz.prog Zgg.1 Zgg.2:=Zp (C:=⟨Tryz.prog,[(39,0),(41,2),(43,3)],[ZJe,ZKd],[],[],[],[],[]⟩) ⟨ZIm,Z0j,trivial⟩ trivial trivial trivial (inl:=[]) trivial (ann:=.no) Tryz.func31 (fun _ _=>by kernel_rfl) rfl fun v vals x z ha hz=>(qcmp_i x.1 x.2).trans (Zsw hz)
end Go.Eng
namespace Go.Eng
open Go.RowKit
def endO (ty:TypeId) (t:T) (c:V) (l:Lo):Option (List t.den):=match c with
 | .cons (.own u) .nl=>match lkE l u with
  | some ⟨_,_,.own ty' t' xs false⟩=>match Nat.beq ty' ty with
   | true=>Znc t' t xs
   | false=>none
  | _=>none
 | _=>none
def Zth (C:Cf) (inl:Inl) (fn:Func) (ann:Ann) (ats:List T) (ty:TypeId) (t:T) (x:Zca ats):Option (List t.den):=match fn.body with
 | some c=>ZKb C (Zfh C inl 20) fn.results.toList 0 fn.ntmps c _ ann (ZWb 0 0 (Zte ats x)) [] 1 ⟨fun _ _ _=>none,fun _ _ _ _=>none,fun c l _=>endO ty t c l⟩
 | none=>none
theorem Zuw {C:Cf} (hC:CfOK C) {inl:Inl} (hinl:Zqc C inl) {f:FuncId} {fn:Func} {ann:Ann} {ats:List T} {ty:TypeId} {t:T} {x:Zca ats} {z:List t.den} (hf:C.P.funcs[f]? = some fn) (hl:Nat.ble ats.length fn.ntmps=true) (h:Zth C inl fn ann ats ty t x=some z)
  {w:World} {v:Zb} {vals:List Value} (hv:VIn v w) (ha:Zyb v ats vals x):RetO C.P f vals.toArray w v fun y v' w'=>OwnR t.rep ty t.n z w y v' w':=by
 unfold Zth at h;split at h
 ·rename_i c hc;obtain ⟨h1,h2,h3⟩:=ZSk (γ:=fun _=>.box 0) (l:=[]) (U:=(· < 0)) ha;have hK:vals.length≤fn.ntmps:=by rw [h3];exact Nat.le_of_ble_eq_true hl
  refine ZWi hv hf hc rfl hK fun a hS=>?_;have hr:RelX fn.ntmps (fun _ _=>False) w v (· < 1) (· < 1) (ZWb 0 0 (Zte ats x)) [] a w (fun _=>.box 0) v []:=by
   refine ⟨⟨hS.size,hS.dfr,fun t x h=>(by cases h),hS.ext,hS.vst,hS.loc,hS.nd⟩,fun t e he=>?_,⟨[],trivial,List.Perm.refl _⟩,List.nodup_nil,fun t e he=>?_,fun e he=>(by cases he),fun x y h=>h.elim⟩
   ·obtain ⟨y,q1,q2,q3,q4,q5⟩:=Z9c h1 h2 he;have:=hS.fr t y ?_
    ·rw [this];exact q3
    ·have q2:vals[t-0]? = some y:=q2;have:=ZYi (k:=0) (t:=t) (y:=y) (by simpa using q2)
     rwa [Nat.zero_add] at this
   ·obtain ⟨y,q1,q2,q3,q4,q5⟩:=Z9c h1 h2 he;exact ⟨V.ok.mono (fun k h=>absurd h (Nat.not_lt_zero k)) q4,by show e.st<1;omega⟩
  refine Zvk hC (Zvm hC hinl 20) c h ⟨_,_,_,hr⟩ ⟨fun f' l' n' a' w' hp hn' ho' hr'=>(by cases hp),fun i f' l' n' a' w' hp hn' ho' hr'=>(by cases hp),fun c l' n' a' w' hp hn' ho' hr'=>?_⟩;obtain ⟨γ',v',ℓ',vals',hr',hc',hk',hres⟩:=hr';have hp:endO ty t c l'=some z:=hp;unfold endO at hp;split at hp
  ·rename_i u;split at hp
   ·rename_i kk st ty' t' xs he;split at hp
    ·rename_i hty;have hty:=Nat.eq_of_beq_eq_true hty;subst hty;obtain ⟨e1,e2⟩:=Z6 hp
     cases e1;cases e2
     obtain ⟨c1,xs1,rfl,⟨y,rfl,_,hy⟩,hx1⟩:=hc';have hx1:xs1=[]:=hx1;subst hx1;obtain ⟨ob,cap,g1,rfl⟩:=hy _ he;obtain ⟨hkk,es,hes,hmem⟩:=hr'.loc he;have hkk:kk=_:=hkk;subst hkk;obtain ⟨ob',cap',cs,q1,q2,rfl⟩:=hes;have q1:γ' kk = .own ob' cap':=q1;rw [g1] at q1;cases q1;obtain ⟨jj,hj⟩:=hmem _ List.mem_cons_self;obtain ⟨hh,hb⟩:=hr'.st.loc _ (List.mem_of_getElem? hj);refine ⟨hr'.st.dfr,_,Zzh hres,_,v',rfl,hr'.st.ext.ext,hr'.st.vst.ext,ob,_,cap,cs,rfl,hh,fun b e=>?_,q2,rfl⟩;obtain ⟨h1,h2⟩:=hb b e;rcases h1 with h1 | h1
     ·exact ⟨h1,h2⟩
     ·cases h1
    ·cases hp
   ·cases hp
  ·cases hp
 ·cases h
theorem ZVo {C:Cf} (hc:CL C.P C.cons) (ho:OL C.P C.owns) (hi:IL C.P C.ins) (hm:ML C.P C.meths) {inl:Inl} (hn:NL C.P inl) {f:FuncId} {fn:Func} {ann:Ann} {con:ConO} (hf:C.P.funcs[f]? = some fn) (hen:Z4 C.P f) (hl:Nat.ble con.args.length fn.ntmps=true)
  (h:∀ x z,con.F x=some z→Zth C inl fn ann con.args con.ty con.t x=some z) (hq:QL C.P C.omats:=by exact trivial):ZOe C.P f con :=
 fun _ _ _ x z hv ha hz=>⟨hen,Zuw (CfOK.of hc ho hi hm hq) (Zqc.of hn) hf hl (h x z hz) hv ha⟩
def endM (ty ty2:TypeId) (t:T) (c:V) (l:Lo):Option (List (List t.den)):=match c with
 | .cons (.own u) .nl=>match lkE l u with
  | some ⟨_,_,.mat ty' ty2' t' m _⟩=>match Nat.beq ty' ty,Nat.beq ty2' ty2 with
   | true,true=>Zqb t' t m
   | _,_=>none
  | _=>none
 | _=>none
def ZIk (C:Cf) (inl:Inl) (fn:Func) (ann:Ann) (ats:List T) (ty ty2:TypeId) (t:T) (x:Zca ats):Option (List (List t.den)):=match fn.body with
 | some c=>ZKb C (Zfh C inl 20) fn.results.toList 0 fn.ntmps c _ ann (ZWb 0 0 (Zte ats x)) [] 1 ⟨fun _ _ _=>none,fun _ _ _ _=>none,fun c l _=>endM ty ty2 t c l⟩
 | none=>none
theorem ZMw {ℓ es:List Loc} {E:List Loc} (h:(ℓ.filterMap Loc.blk).Nodup) (hp:ℓ.Perm (es++E)):(es.filterMap Loc.blk).Nodup:=by
 have h1:=(hp.filterMap Loc.blk).nodup_iff.1 h;rw [List.filterMap_append] at h1;exact (List.nodup_append.1 h1).1
theorem ZZs {C:Cf} (hC:CfOK C) {inl:Inl} (hinl:Zqc C inl) {f:FuncId} {fn:Func} {ann:Ann} {ats:List T} {ty ty2:TypeId} {t:T} {x:Zca ats} {z:List (List t.den)} (hf:C.P.funcs[f]? = some fn) (hl:Nat.ble ats.length fn.ntmps=true) (h:ZIk C inl fn ann ats ty ty2 t x=some z)
  {w:World} {v:Zb} {vals:List Value} (hv:VIn v w) (ha:Zyb v ats vals x):RetO C.P f vals.toArray w v (OwnM ty ty2 t z w):=by
 unfold ZIk at h;split at h
 ·rename_i c hc;obtain ⟨h1,h2,h3⟩:=ZSk (γ:=fun _=>.box 0) (l:=[]) (U:=(· < 0)) ha;have hK:vals.length≤fn.ntmps:=by rw [h3];exact Nat.le_of_ble_eq_true hl
  refine ZWi hv hf hc rfl hK fun a hS=>?_;have hr:RelX fn.ntmps (fun _ _=>False) w v (· < 1) (· < 1) (ZWb 0 0 (Zte ats x)) [] a w (fun _=>.box 0) v []:=by
   refine ⟨⟨hS.size,hS.dfr,fun t x h=>(by cases h),hS.ext,hS.vst,hS.loc,hS.nd⟩,fun t e he=>?_,⟨[],trivial,List.Perm.refl _⟩,List.nodup_nil,fun t e he=>?_,fun e he=>(by cases he),fun x y h=>h.elim⟩
   ·obtain ⟨y,q1,q2,q3,q4,q5⟩:=Z9c h1 h2 he;have:=hS.fr t y ?_
    ·rw [this];exact q3
    ·have q2:vals[t-0]? = some y:=q2;have:=ZYi (k:=0) (t:=t) (y:=y) (by simpa using q2)
     rwa [Nat.zero_add] at this
   ·obtain ⟨y,q1,q2,q3,q4,q5⟩:=Z9c h1 h2 he;exact ⟨V.ok.mono (fun k h=>absurd h (Nat.not_lt_zero k)) q4,by show e.st<1;omega⟩
  refine Zvk hC (Zvm hC hinl 20) c h ⟨_,_,_,hr⟩ ⟨fun f' l' n' a' w' hp hn' ho' hr'=>(by cases hp),fun i f' l' n' a' w' hp hn' ho' hr'=>(by cases hp),fun c l' n' a' w' hp hn' ho' hr'=>?_⟩;obtain ⟨γ',v',ℓ',vals',hr',hc',hk',hres⟩:=hr';have hp:endM ty ty2 t c l'=some z:=hp;unfold endM at hp;split at hp
  ·rename_i u;split at hp
   ·rename_i kk st ty' ty2' t' m' hv' he;split at hp
    ·rename_i hty hty2;have hty:=Nat.eq_of_beq_eq_true hty;have hty2:=Nat.eq_of_beq_eq_true hty2;subst hty hty2;obtain ⟨e1,e2⟩:=Z6 hp
     cases e1;cases e2
     obtain ⟨c1,xs1,rfl,⟨y,rfl,_,hy⟩,hx1⟩:=hc';have hx1:xs1=[]:=hx1;subst hx1;obtain ⟨ob,cap,rows0,g1,rfl⟩:=hy _ he;obtain ⟨E,hE,hpm⟩:=hr'.lr;obtain ⟨es,E',r1,r2,r3⟩:=ZBf hE he;obtain ⟨ob',cap',rows,es2,q1,q2,rfl⟩:=r1;have hkk:kk=_:=(Zy he).2;subst hkk;have q1:γ' kk = .mat ob' cap' rows:=q1;rw [g1] at q1;cases q1;refine ⟨hr'.st.dfr,_,Zzh hres,_,v',rfl,hr'.st.ext.ext,hr'.st.vst.ext,_,_,_,es2,rfl,q2,fun x hx=>?_,ZMw hr'.st.nd (hpm.trans r3)⟩;obtain ⟨hh,hb⟩:=hr'.st.loc x ((hpm.trans r3).mem_iff.2 (List.mem_append_left _ hx));refine ⟨hh,fun b e=>?_⟩;obtain ⟨h1,h2⟩:=hb b e;rcases h1 with h1 | h1
     ·exact ⟨h1,h2⟩
     ·cases h1
    ·cases hp
   ·cases hp
  ·cases hp
 ·cases h
theorem conm_k {C:Cf} (hc:CL C.P C.cons) (ho:OL C.P C.owns) (hi:IL C.P C.ins) (hm:ML C.P C.meths) {inl:Inl} (hn:NL C.P inl) {f:FuncId} {fn:Func} {ann:Ann} {con:ConM} (hf:C.P.funcs[f]? = some fn) (hen:Z4 C.P f) (hl:Nat.ble con.args.length fn.ntmps=true)
  (h:∀ x z,con.F x=some z→ZIk C inl fn ann con.args con.ty con.ty2 con.t x=some z) (hq:QL C.P C.omats:=by exact trivial):Zvh C.P f con :=
 fun _ _ _ x z hv ha hz=>⟨hen,ZZs (CfOK.of hc ho hi hm hq) (Zqc.of hn) hf hl (h x z hz) hv ha⟩
end Go.Eng
set_option maxRecDepth 100000
set_option maxHeartbeats 4000000
namespace Go.Eng
open Go.Proofs Go.RowKit
noncomputable def ZFc:FuncId×ConO:=(49,⟨[.int .i64],43,.leaf 3,fun p=>ZGf p⟩)
theorem Zxv (n:Int):Zth ⟨Tryz.prog,[(39,0),(41,2),(43,3),(91,1),(93,4)],[Z1b],[],[Z0e],[],[],[]⟩ [] Tryz.f49 .no [.int .i64] 43 (.leaf 3) (n)=ZGf n:=by kernel_rfl
theorem ZLi:ZOe Tryz.prog ZFc.1 ZFc.2:=ZVo (C:=⟨Tryz.prog,[(39,0),(41,2),(43,3),(91,1),(93,4)],[Z1b],[],[Z0e],[],[],[]⟩) ⟨ZCg,trivial⟩ ⟨Zdm,trivial⟩ trivial trivial (inl:=[]) trivial (ann:=.no) Tryz.func49 (fun _ _=>by kernel_rfl) rfl (fun x z hz=>(Zxv x).trans hz)
end Go.Eng
set_option maxRecDepth 100000
set_option maxHeartbeats 4000000
namespace Go.Eng
open Go.Proofs Go.RowKit
noncomputable def ZZi:FuncId×ConM:=(95,⟨[.slice (.slice (.leaf 3))],30,43,.leaf 3,fun p=>Zuo p⟩)
theorem Zrx (m:List (List Rat)):ZIk ⟨Tryz.prog,[(39,0),(41,2),(43,3),(91,1),(93,4)],[],[8],[Zid],[],[],[]⟩ [] Tryz.f95 (.two .no (.two .no (.two (.two .no (.two (.cut ⟨⟨[3,9,10],[],[.s 11 (.dat (.int .i64)),.l (.sl 3) (.mat 30 43 (.leaf 3))]⟩,[(.exit 0,⟨[3],[],[.l (.sl 3) (.mat 30 43 (.leaf 3))]⟩)]⟩ .no) .no)) .no))) [.slice (.slice (.leaf 3))] 30 43 (.leaf 3) (m)=Zuo m:=by kernel_rfl
theorem ZAs:Zvh Tryz.prog ZZi.1 ZZi.2:=conm_k (C:=⟨Tryz.prog,[(39,0),(41,2),(43,3),(91,1),(93,4)],[],[8],[Zid],[],[],[]⟩) trivial ⟨ZEk,trivial⟩ trivial trivial (inl:=[]) trivial (ann:=(.two .no (.two .no (.two (.two .no (.two (.cut ⟨⟨[3,9,10],[],[.s 11 (.dat (.int .i64)),.l (.sl 3) (.mat 30 43 (.leaf 3))]⟩,[(.exit 0,⟨[3],[],[.l (.sl 3) (.mat 30 43 (.leaf 3))]⟩)]⟩ .no) .no)) .no)))) Tryz.func95 (fun _ _=>by kernel_rfl) rfl (fun x z hz=>(Zrx x).trans hz)
end Go.Eng
set_option maxRecDepth 100000
set_option maxHeartbeats 4000000
namespace Go.Eng
open Go.Proofs Go.RowKit
noncomputable def ZNl:FuncId×Con:=(125,⟨[.ptr (.pair (.slice (.slice (.leaf 3))) (.pair (.slice (.leaf 3)) (.pair (.slice (.leaf 3)) (.pair (.leaf 3) (.pair (.slice (.int .i64)) (.slice (.int .i64))))))),.int .i64],[.slice (.leaf 3)],fun p=>ZGj p.1 p.2⟩)
theorem ZIt (t:(List (List Rat))×(List Rat)×(List Rat)×Rat×(List Int)×(List Int)) (n:Int):Zm ⟨Tryz.prog,[(39,0),(41,2),(43,3),(91,1),(93,4)],[],[],[ZFc],[],[],[]⟩ [] Tryz.f125 (.two .no (.two .no (.two (.two .no (.two (.cut ⟨⟨[0,1,5,13,14],[],[.s 15 (.dat (.int .i64)),.l (.sl 5) (.own 43 (.leaf 3))]⟩,[(.exit 0,⟨[5],[],[.l (.sl 5) (.own 43 (.leaf 3))]⟩)]⟩ (.two (.two .no (.two .no (.two (.two (.two .no (.two .no (.cut ⟨⟨[],[],[]⟩,[(.norm,⟨[0,1,5,13,14,15],[],[.l (.sl 5) (.own 43 (.leaf 3))]⟩)]⟩ .no))) .no) .no))) .no)) .no)) .no))) [.ptr (.pair (.slice (.slice (.leaf 3))) (.pair (.slice (.leaf 3)) (.pair (.slice (.leaf 3)) (.pair (.leaf 3) (.pair (.slice (.int .i64)) (.slice (.int .i64))))))),.int .i64] [.slice (.leaf 3)] (t,n)=ZGj t n:=by kernel_rfl
theorem Z3u:Zk Tryz.prog ZNl.1 ZNl.2:=Zp (C:=⟨Tryz.prog,[(39,0),(41,2),(43,3),(91,1),(93,4)],[],[],[ZFc],[],[],[]⟩) trivial ⟨ZLi,trivial⟩ trivial trivial (inl:=[]) trivial (ann:=(.two .no (.two .no (.two (.two .no (.two (.cut ⟨⟨[0,1,5,13,14],[],[.s 15 (.dat (.int .i64)),.l (.sl 5) (.own 43 (.leaf 3))]⟩,[(.exit 0,⟨[5],[],[.l (.sl 5) (.own 43 (.leaf 3))]⟩)]⟩ (.two (.two .no (.two .no (.two (.two (.two .no (.two .no (.cut ⟨⟨[],[],[]⟩,[(.norm,⟨[0,1,5,13,14,15],[],[.l (.sl 5) (.own 43 (.leaf 3))]⟩)]⟩ .no))) .no) .no))) .no)) .no)) .no)))) Tryz.func125 (fun _ _=>by kernel_rfl) rfl (fun v vals x z ha hz=>(ZIt x.1 x.2).trans hz)
end Go.Eng
set_option maxRecDepth 100000
set_option maxHeartbeats 4000000
namespace Go.Eng
open Go.Proofs Go.RowKit
noncomputable def ZIl:FuncId×Con:=(126,⟨[.ptr (.pair (.slice (.slice (.leaf 3))) (.pair (.slice (.leaf 3)) (.pair (.slice (.leaf 3)) (.pair (.leaf 3) (.pair (.slice (.int .i64)) (.slice (.int .i64))))))),.int .i64,.int .i64],[.slice (.leaf 3)],fun p=>Zpo p.1 p.2.1 p.2.2⟩)
theorem Z9u (t : (List (List Rat)) × (List Rat) × (List Rat) × Rat × (List Int) × (List Int)) (n : Int) (k : Int) : Zm ⟨Tryz.prog, [(39, 0), (41, 2), (43, 3), (91, 1), (93, 4)], [ZGc], [], [ZFc], [], [((43, "Neg"), 117)], []⟩ [] Tryz.f126 (.two .no (.two .no (.two (.two .no (.two (.cut ⟨⟨[0, 1, 2, 7, 15, 16], [], [.s 17 (.dat (.int .i64)), .l (.sl 7) (.own 43 (.leaf 3))]⟩, [(.exit 0, ⟨[7], [], [.l (.sl 7) (.own 43 (.leaf 3))]⟩)]⟩ (.two (.two .no (.two .no (.two (.two (.two .no (.two (.cut ⟨⟨[], [], []⟩, [(.norm, ⟨[0, 1, 2, 7, 8, 9, 15, 16, 17], [], [.s 31 (.dat .bool)]⟩)]⟩ .no) (.cut ⟨⟨[], [], []⟩, [(.norm, ⟨[0, 1, 2, 7, 15, 16, 17], [], [.l (.sl 7) (.own 43 (.leaf 3))]⟩)]⟩ .no))) .no) .no))) .no)) .no)) .no))) [.ptr (.pair (.slice (.slice (.leaf 3))) (.pair (.slice (.leaf 3)) (.pair (.slice (.leaf 3)) (.pair (.leaf 3) (.pair (.slice (.int .i64)) (.slice (.int .i64))))))), .int .i64, .int .i64] [.slice (.leaf 3)] (t, n, k) = Zpo t n k := by kernel_rfl
theorem Zpt : Zk Tryz.prog ZIl.1 ZIl.2 := Zp (C := ⟨Tryz.prog, [(39, 0), (41, 2), (43, 3), (91, 1), (93, 4)], [ZGc], [], [ZFc], [], [((43, "Neg"), 117)], []⟩) ⟨Z3h, trivial⟩ ⟨ZLi, trivial⟩ trivial ⟨Zhl, trivial⟩ (inl := []) trivial (ann := (.two .no (.two .no (.two (.two .no (.two (.cut ⟨⟨[0, 1, 2, 7, 15, 16], [], [.s 17 (.dat (.int .i64)), .l (.sl 7) (.own 43 (.leaf 3))]⟩, [(.exit 0, ⟨[7], [], [.l (.sl 7) (.own 43 (.leaf 3))]⟩)]⟩ (.two (.two .no (.two .no (.two (.two (.two .no (.two (.cut ⟨⟨[], [], []⟩, [(.norm, ⟨[0, 1, 2, 7, 8, 9, 15, 16, 17], [], [.s 31 (.dat .bool)]⟩)]⟩ .no) (.cut ⟨⟨[], [], []⟩, [(.norm, ⟨[0, 1, 2, 7, 15, 16, 17], [], [.l (.sl 7) (.own 43 (.leaf 3))]⟩)]⟩ .no))) .no) .no))) .no)) .no)) .no)))) Tryz.func126 (fun _ _ => by kernel_rfl) rfl (fun v vals x z ha hz => (Z9u x.1 x.2.1 x.2.2).trans hz)
end Go.Eng
set_option maxRecDepth 100000
set_option maxHeartbeats 4000000
namespace Go.Eng
open Go.Proofs Go.RowKit
noncomputable def Z5j:FuncId×Con:=(81,⟨[.pair (.slice (.slice (.leaf 3))) (.pair (.slice (.leaf 3)) (.slice (.leaf 3)))],[.pair (.int .i64) (.pair (.leaf 3) (.pair (.slice (.leaf 3)) (.pair (.slice (.leaf 3)) (.slice (.leaf 3)))))],fun p=>Z5m p⟩)
theorem ZJv (p : (List (List Rat)) × (List Rat) × (List Rat)) : Zm ⟨Tryz.prog, [(39, 0), (41, 2), (43, 3), (91, 1), (93, 4)], [Znd, Zvc, ZDc, Zgg, Z1b, ZJe, ZKd, ZGc, ZNl, ZIl, Zmg], [], [ZFc, Zid], [], [((43, "Add"), 23), ((43, "Cmp"), 31), ((43, "Div"), 213), ((43, "Mul"), 30), ((43, "Neg"), 117), ((43, "Sign"), 72), ((43, "Sub"), 71), ((43, "Zero"), 22)], [ZZi]⟩ [(122, Tryz.f122, .two .no (.two .no (.two (.two .no (.two (.cut ⟨⟨[1, 3, 20], [.fld (.sl 3) 0, .fld (.sl 3) 1, .fld (.sl 3) 2], [.s 21 (.dat (.int .i64)), .l (.sl 3) (.box 166 (.agg (.cons (.mat 30 43 (.leaf 3)) (.cons (.own 43 (.leaf 3)) (.cons (.own 43 (.leaf 3)) (.cons (.dat (.leaf 3)) (.cons (.own 3 (.int .i64)) (.one (.own 3 (.int .i64))))))))))]⟩, [(.exit 0, ⟨[1, 3], [.fld (.sl 3) 0, .fld (.sl 3) 1, .fld (.sl 3) 2], [.l (.sl 3) (.box 166 (.agg (.cons (.mat 30 43 (.leaf 3)) (.cons (.own 43 (.leaf 3)) (.cons (.own 43 (.leaf 3)) (.cons (.dat (.leaf 3)) (.cons (.own 3 (.int .i64)) (.one (.own 3 (.int .i64))))))))))]⟩)]⟩ .no) .no)) (.two (.two .no (.two (.cut ⟨⟨[1, 3, 37], [.fld (.sl 3) 0, .fld (.sl 3) 1, .fld (.sl 3) 2, .fld (.sl 3) 6, .fld (.sl 3) 7], [.s 38 (.dat (.int .i64)), .l (.sl 3) (.box 166 (.agg (.cons (.mat 30 43 (.leaf 3)) (.cons (.own 43 (.leaf 3)) (.cons (.own 43 (.leaf 3)) (.cons (.dat (.leaf 3)) (.cons (.own 3 (.int .i64)) (.one (.own 3 (.int .i64))))))))))]⟩, [(.exit 2, ⟨[3], [.fld (.sl 3) 0, .fld (.sl 3) 1, .fld (.sl 3) 2, .fld (.sl 3) 6, .fld (.sl 3) 7], [.l (.sl 3) (.box 166 (.agg (.cons (.mat 30 43 (.leaf 3)) (.cons (.own 43 (.leaf 3)) (.cons (.own 43 (.leaf 3)) (.cons (.dat (.leaf 3)) (.cons (.own 3 (.int .i64)) (.one (.own 3 (.int .i64))))))))))]⟩)]⟩ .no) .no)) .no)))), (123, Tryz.f123, .two .no (.two .no (.two .no (.two (.two .no (.two (.cut ⟨⟨[0, 3, 6, 7, 8, 34, 35], [], [.s 9 (.dat (.int .i64)), .s 36 (.dat (.int .i64))]⟩, [(.exit 0, ⟨[0, 3, 6, 7, 8], [], [.s 9 (.dat (.int .i64))]⟩)]⟩ (.two (.two .no (.two .no (.two (.two (.two .no (.two (.cut ⟨⟨[], [], []⟩, [(.norm, ⟨[0, 3, 6, 7, 8, 9, 10, 34, 35, 36], [], [.s 61 (.dat .bool)]⟩)]⟩ .no) (.cut ⟨⟨[], [], []⟩, [(.norm, ⟨[0, 3, 6, 7, 8, 34, 35, 36], [], [.s 9 (.dat (.int .i64))]⟩)]⟩ .no))) .no) .no))) .no)) .no)) (.two .no (.two (.two .no (.two (.unroll 0 .no) .no)) .no)))))), (124, Tryz.f124, .two .no (.two (.cut ⟨⟨[0, 1], [.fld (.sl 0) 0, .fld (.sl 0) 1, .fld (.sl 0) 2, .fld (.sl 0) 6, .fld (.sl 0) 7], [.l (.sl 0) (.box 166 (.agg (.cons (.mat 30 43 (.leaf 3)) (.cons (.own 43 (.leaf 3)) (.cons (.own 43 (.leaf 3)) (.cons (.dat (.leaf 3)) (.cons (.own 3 (.int .i64)) (.one (.own 3 (.int .i64))))))))))]⟩, [(.ret, ⟨[], [.fld (.sl 0) 0, .fld (.sl 0) 1, .fld (.sl 0) 2, .fld (.sl 0) 6, .fld (.sl 0) 7], [.s 1000 (.dat (.int .i64)), .l (.sl 0) (.box 166 (.agg (.cons (.mat 30 43 (.leaf 3)) (.cons (.own 43 (.leaf 3)) (.cons (.own 43 (.leaf 3)) (.cons (.dat (.leaf 3)) (.cons (.own 3 (.int .i64)) (.one (.own 3 (.int .i64))))))))))]⟩)]⟩ .no) .no)), (159, Tryz.f159, .two .no (.two .no (.two (.two .no (.two (.cut ⟨⟨[0, 1, 2, 7, 37], [], [.s 38 (.dat (.int .i64)), .l (.sl 20) (.mat 30 43 (.leaf 3))]⟩, [(.exit 0, ⟨[0, 1, 2, 7], [], [.l (.sl 20) (.mat 30 43 (.leaf 3))]⟩)]⟩ .no) .no)) (.two .no (.two .no (.two (.two .no (.two (.cut ⟨⟨[0, 1, 2, 94], [], [.s 95 (.dat (.int .i64)), .l (.sl 67) (.mat 30 43 (.leaf 3)), .l (.sl 77) (.own 43 (.leaf 3))]⟩, [(.exit 2, ⟨[0, 1, 2], [], [.l (.sl 67) (.mat 30 43 (.leaf 3)), .l (.sl 77) (.own 43 (.leaf 3))]⟩)]⟩ (.two (.two .no (.two .no (.two (.cut ⟨⟨[], [], []⟩, [(.norm, ⟨[0, 1, 2, 94, 95], [], [.l (.fld (.sl 0) 0) (.mat 30 43 (.leaf 3)), .l (.fld (.sl 0) 1) (.own 43 (.leaf 3))]⟩)]⟩ (.two (.two .no (.two (.two (.cut ⟨⟨[], [], []⟩, [(.norm, ⟨[0, 1, 2, 10, 94, 95], [], [.s 114 (.dat .bool)]⟩)]⟩ .no) .no) .no)) .no)) .no))) .no)) .no)) .no)))))), (164, Tryz.f164, .two .no (.two .no (.two (.two .no (.two (.cut ⟨⟨[0, 9, 10], [], [.s 3 (.dat (.int .i64)), .s 11 (.dat (.int .i64))]⟩, [(.exit 0, ⟨[], [], [.s 3 (.dat (.int .i64))]⟩)]⟩ (.two (.two .no (.two .no (.two (.two (.two .no (.two (.cut ⟨⟨[], [], []⟩, [(.norm, ⟨[0, 3, 4, 9, 10, 11], [], [.s 40 (.dat .bool)]⟩)]⟩ .no) (.cut ⟨⟨[], [], []⟩, [(.norm, ⟨[0, 9, 10, 11], [], [.s 3 (.dat (.int .i64))]⟩)]⟩ .no))) .no) .no))) .no)) .no)) .no))), (165, Tryz.f165, .two .no (.two .no (.two .no (.two (.two .no (.two (.cut ⟨⟨[0, 1, 2, 8, 17], [], [.s 7 (.dat (.int .i64)), .s 18 (.dat (.int .i64)), .l (.sl 8) (.box 43 (.dat (.leaf 3)))]⟩, [(.exit 0, ⟨[], [], [.s 7 (.dat (.int .i64))]⟩)]⟩ (.two (.two .no (.two .no (.two (.cut ⟨⟨[], [], []⟩, [(.norm, ⟨[0, 1, 2, 8, 17, 18], [], [.s 7 (.dat (.int .i64)), .l (.sl 8) (.box 43 (.dat (.leaf 3)))]⟩)]⟩ (.two (.two .no (.two .no (.two .no (.two .no (.two (.two .no (.cut ⟨⟨[], [], []⟩, [(.norm, ⟨[0, 1, 2, 7, 8, 9, 10, 17, 18], [], [.s 12 (.dat (.int .i64))]⟩)]⟩ .no)) (.two (.cut ⟨⟨[], [], []⟩, [(.norm, ⟨[0, 1, 2, 7, 8, 9, 10, 17, 18], [], [.s 110 (.dat .bool)]⟩)]⟩ .no) (.cut ⟨⟨[], [], []⟩, [(.norm, ⟨[0, 1, 2, 8, 17, 18], [], [.s 7 (.dat (.int .i64)), .l (.sl 8) (.box 43 (.dat (.leaf 3)))]⟩)]⟩ .no))))))) .no)) .no))) .no)) .no)) .no)))), (182, Tryz.f182, .sel 1 (.two .no (.two (.two .no (.two (.cut ⟨⟨[0, 1, 2, 3, 8, 15], [], [.s 16 (.dat (.int .i64)), .l (.fld (.sl 0) 0) (.agg (.mat 30 43 (.leaf 3)))]⟩, [(.exit 0, ⟨[0, 1, 2, 3, 8], [], [.l (.fld (.sl 0) 0) (.agg (.mat 30 43 (.leaf 3)))]⟩)]⟩ .no) .no)) .no)) (.two .no (.two (.two .no (.two (.cut ⟨⟨[0, 1, 2, 3, 8, 15], [], [.s 16 (.dat (.int .i64)), .l (.sl 1) (.own 43 (.leaf 3))]⟩, [(.exit 0, ⟨[0, 1, 2, 3, 8], [], [.l (.sl 1) (.own 43 (.leaf 3))]⟩)]⟩ .no) .no)) .no)))] Tryz.f81 (.two .no (.two .no (.two .no (.two .no (.two .no (.two (.cut ⟨⟨[], [], []⟩, [(.norm, ⟨[2, 3, 4, 6], [], [.s 5 (.dat (.ptr (.pair (.slice (.slice (.leaf 3))) (.pair (.slice (.leaf 3)) (.pair (.slice (.leaf 3)) (.pair (.leaf 3) (.pair (.slice (.int .i64)) (.slice (.int .i64))))))))), .s 9 (.dat (.int .i64))]⟩)]⟩ .no) (.two .no (.two .no (.two (.two .no (.two .no (.cut ⟨⟨[], [], []⟩, [(.norm, ⟨[2, 3, 5, 6, 9, 10], [], [.l (.sl 10) (.own 43 (.leaf 3))]⟩)]⟩ .no))) (.two (.two .no (.two (.cut ⟨⟨[2, 3, 5, 6, 9, 10, 69, 70], [], [.s 71 (.dat (.int .i64)), .l (.sl 10) (.own 43 (.leaf 3))]⟩, [(.exit 0, ⟨[2, 3, 5, 6, 10], [], [.l (.sl 10) (.own 43 (.leaf 3))]⟩)]⟩ (.two (.two .no (.two .no (.two (.two (.two .no (.two .no (.cut ⟨⟨[], [], []⟩, [(.norm, ⟨[2, 3, 5, 6, 9, 10, 69, 70, 71], [], [.l (.sl 10) (.own 43 (.leaf 3))]⟩)]⟩ .no))) .no) .no))) .no)) .no)) .no)))))))))) [.pair (.slice (.slice (.leaf 3))) (.pair (.slice (.leaf 3)) (.slice (.leaf 3)))] [.pair (.int .i64) (.pair (.leaf 3) (.pair (.slice (.leaf 3)) (.pair (.slice (.leaf 3)) (.slice (.leaf 3)))))] (p) = Z5m p := by kernel_rfl
theorem ZPt : Zk Tryz.prog Z5j.1 Z5j.2 := Zp (C := ⟨Tryz.prog, [(39, 0), (41, 2), (43, 3), (91, 1), (93, 4)], [Znd, Zvc, ZDc, Zgg, Z1b, ZJe, ZKd, ZGc, ZNl, ZIl, Zmg], [], [ZFc, Zid], [], [((43, "Add"), 23), ((43, "Cmp"), 31), ((43, "Div"), 213), ((43, "Mul"), 30), ((43, "Neg"), 117), ((43, "Sign"), 72), ((43, "Sub"), 71), ((43, "Zero"), 22)], [ZZi]⟩) ⟨Z4j, Zli, Zhi, ZIo, ZCg, ZIm, Z0j, Z3h, Z3u, Zpt, Z7q, trivial⟩ ⟨ZLi, ZEk, trivial⟩ trivial ⟨ZXn, ZIp, ZIr, ZHj, Zhl, Zbm, Z0o, Zno, trivial⟩ (inl := [(122, Tryz.f122, .two .no (.two .no (.two (.two .no (.two (.cut ⟨⟨[1, 3, 20], [.fld (.sl 3) 0, .fld (.sl 3) 1, .fld (.sl 3) 2], [.s 21 (.dat (.int .i64)), .l (.sl 3) (.box 166 (.agg (.cons (.mat 30 43 (.leaf 3)) (.cons (.own 43 (.leaf 3)) (.cons (.own 43 (.leaf 3)) (.cons (.dat (.leaf 3)) (.cons (.own 3 (.int .i64)) (.one (.own 3 (.int .i64))))))))))]⟩, [(.exit 0, ⟨[1, 3], [.fld (.sl 3) 0, .fld (.sl 3) 1, .fld (.sl 3) 2], [.l (.sl 3) (.box 166 (.agg (.cons (.mat 30 43 (.leaf 3)) (.cons (.own 43 (.leaf 3)) (.cons (.own 43 (.leaf 3)) (.cons (.dat (.leaf 3)) (.cons (.own 3 (.int .i64)) (.one (.own 3 (.int .i64))))))))))]⟩)]⟩ .no) .no)) (.two (.two .no (.two (.cut ⟨⟨[1, 3, 37], [.fld (.sl 3) 0, .fld (.sl 3) 1, .fld (.sl 3) 2, .fld (.sl 3) 6, .fld (.sl 3) 7], [.s 38 (.dat (.int .i64)), .l (.sl 3) (.box 166 (.agg (.cons (.mat 30 43 (.leaf 3)) (.cons (.own 43 (.leaf 3)) (.cons (.own 43 (.leaf 3)) (.cons (.dat (.leaf 3)) (.cons (.own 3 (.int .i64)) (.one (.own 3 (.int .i64))))))))))]⟩, [(.exit 2, ⟨[3], [.fld (.sl 3) 0, .fld (.sl 3) 1, .fld (.sl 3) 2, .fld (.sl 3) 6, .fld (.sl 3) 7], [.l (.sl 3) (.box 166 (.agg (.cons (.mat 30 43 (.leaf 3)) (.cons (.own 43 (.leaf 3)) (.cons (.own 43 (.leaf 3)) (.cons (.dat (.leaf 3)) (.cons (.own 3 (.int .i64)) (.one (.own 3 (.int .i64))))))))))]⟩)]⟩ .no) .no)) .no)))), (123, Tryz.f123, .two .no (.two .no (.two .no (.two (.two .no (.two (.cut ⟨⟨[0, 3, 6, 7, 8, 34, 35], [], [.s 9 (.dat (.int .i64)), .s 36 (.dat (.int .i64))]⟩, [(.exit 0, ⟨[0, 3, 6, 7, 8], [], [.s 9 (.dat (.int .i64))]⟩)]⟩ (.two (.two .no (.two .no (.two (.two (.two .no (.two (.cut ⟨⟨[], [], []⟩, [(.norm, ⟨[0, 3, 6, 7, 8, 9, 10, 34, 35, 36], [], [.s 61 (.dat .bool)]⟩)]⟩ .no) (.cut ⟨⟨[], [], []⟩, [(.norm, ⟨[0, 3, 6, 7, 8, 34, 35, 36], [], [.s 9 (.dat (.int .i64))]⟩)]⟩ .no))) .no) .no))) .no)) .no)) (.two .no (.two (.two .no (.two (.unroll 0 .no) .no)) .no)))))), (124, Tryz.f124, .two .no (.two (.cut ⟨⟨[0, 1], [.fld (.sl 0) 0, .fld (.sl 0) 1, .fld (.sl 0) 2, .fld (.sl 0) 6, .fld (.sl 0) 7], [.l (.sl 0) (.box 166 (.agg (.cons (.mat 30 43 (.leaf 3)) (.cons (.own 43 (.leaf 3)) (.cons (.own 43 (.leaf 3)) (.cons (.dat (.leaf 3)) (.cons (.own 3 (.int .i64)) (.one (.own 3 (.int .i64))))))))))]⟩, [(.ret, ⟨[], [.fld (.sl 0) 0, .fld (.sl 0) 1, .fld (.sl 0) 2, .fld (.sl 0) 6, .fld (.sl 0) 7], [.s 1000 (.dat (.int .i64)), .l (.sl 0) (.box 166 (.agg (.cons (.mat 30 43 (.leaf 3)) (.cons (.own 43 (.leaf 3)) (.cons (.own 43 (.leaf 3)) (.cons (.dat (.leaf 3)) (.cons (.own 3 (.int .i64)) (.one (.own 3 (.int .i64))))))))))]⟩)]⟩ .no) .no)), (159, Tryz.f159, .two .no (.two .no (.two (.two .no (.two (.cut ⟨⟨[0, 1, 2, 7, 37], [], [.s 38 (.dat (.int .i64)), .l (.sl 20) (.mat 30 43 (.leaf 3))]⟩, [(.exit 0, ⟨[0, 1, 2, 7], [], [.l (.sl 20) (.mat 30 43 (.leaf 3))]⟩)]⟩ .no) .no)) (.two .no (.two .no (.two (.two .no (.two (.cut ⟨⟨[0, 1, 2, 94], [], [.s 95 (.dat (.int .i64)), .l (.sl 67) (.mat 30 43 (.leaf 3)), .l (.sl 77) (.own 43 (.leaf 3))]⟩, [(.exit 2, ⟨[0, 1, 2], [], [.l (.sl 67) (.mat 30 43 (.leaf 3)), .l (.sl 77) (.own 43 (.leaf 3))]⟩)]⟩ (.two (.two .no (.two .no (.two (.cut ⟨⟨[], [], []⟩, [(.norm, ⟨[0, 1, 2, 94, 95], [], [.l (.fld (.sl 0) 0) (.mat 30 43 (.leaf 3)), .l (.fld (.sl 0) 1) (.own 43 (.leaf 3))]⟩)]⟩ (.two (.two .no (.two (.two (.cut ⟨⟨[], [], []⟩, [(.norm, ⟨[0, 1, 2, 10, 94, 95], [], [.s 114 (.dat .bool)]⟩)]⟩ .no) .no) .no)) .no)) .no))) .no)) .no)) .no)))))), (164, Tryz.f164, .two .no (.two .no (.two (.two .no (.two (.cut ⟨⟨[0, 9, 10], [], [.s 3 (.dat (.int .i64)), .s 11 (.dat (.int .i64))]⟩, [(.exit 0, ⟨[], [], [.s 3 (.dat (.int .i64))]⟩)]⟩ (.two (.two .no (.two .no (.two (.two (.two .no (.two (.cut ⟨⟨[], [], []⟩, [(.norm, ⟨[0, 3, 4, 9, 10, 11], [], [.s 40 (.dat .bool)]⟩)]⟩ .no) (.cut ⟨⟨[], [], []⟩, [(.norm, ⟨[0, 9, 10, 11], [], [.s 3 (.dat (.int .i64))]⟩)]⟩ .no))) .no) .no))) .no)) .no)) .no))), (165, Tryz.f165, .two .no (.two .no (.two .no (.two (.two .no (.two (.cut ⟨⟨[0, 1, 2, 8, 17], [], [.s 7 (.dat (.int .i64)), .s 18 (.dat (.int .i64)), .l (.sl 8) (.box 43 (.dat (.leaf 3)))]⟩, [(.exit 0, ⟨[], [], [.s 7 (.dat (.int .i64))]⟩)]⟩ (.two (.two .no (.two .no (.two (.cut ⟨⟨[], [], []⟩, [(.norm, ⟨[0, 1, 2, 8, 17, 18], [], [.s 7 (.dat (.int .i64)), .l (.sl 8) (.box 43 (.dat (.leaf 3)))]⟩)]⟩ (.two (.two .no (.two .no (.two .no (.two .no (.two (.two .no (.cut ⟨⟨[], [], []⟩, [(.norm, ⟨[0, 1, 2, 7, 8, 9, 10, 17, 18], [], [.s 12 (.dat (.int .i64))]⟩)]⟩ .no)) (.two (.cut ⟨⟨[], [], []⟩, [(.norm, ⟨[0, 1, 2, 7, 8, 9, 10, 17, 18], [], [.s 110 (.dat .bool)]⟩)]⟩ .no) (.cut ⟨⟨[], [], []⟩, [(.norm, ⟨[0, 1, 2, 8, 17, 18], [], [.s 7 (.dat (.int .i64)), .l (.sl 8) (.box 43 (.dat (.leaf 3)))]⟩)]⟩ .no))))))) .no)) .no))) .no)) .no)) .no)))), (182, Tryz.f182, .sel 1 (.two .no (.two (.two .no (.two (.cut ⟨⟨[0, 1, 2, 3, 8, 15], [], [.s 16 (.dat (.int .i64)), .l (.fld (.sl 0) 0) (.agg (.mat 30 43 (.leaf 3)))]⟩, [(.exit 0, ⟨[0, 1, 2, 3, 8], [], [.l (.fld (.sl 0) 0) (.agg (.mat 30 43 (.leaf 3)))]⟩)]⟩ .no) .no)) .no)) (.two .no (.two (.two .no (.two (.cut ⟨⟨[0, 1, 2, 3, 8, 15], [], [.s 16 (.dat (.int .i64)), .l (.sl 1) (.own 43 (.leaf 3))]⟩, [(.exit 0, ⟨[0, 1, 2, 3, 8], [], [.l (.sl 1) (.own 43 (.leaf 3))]⟩)]⟩ .no) .no)) .no)))]) ⟨⟨Tryz.func122, fun _ _ => by kernel_rfl⟩, ⟨Tryz.func123, fun _ _ => by kernel_rfl⟩, ⟨Tryz.func124, fun _ _ => by kernel_rfl⟩, ⟨Tryz.func159, fun _ _ => by kernel_rfl⟩, ⟨Tryz.func164, fun _ _ => by kernel_rfl⟩, ⟨Tryz.func165, fun _ _ => by kernel_rfl⟩, ⟨Tryz.func182, fun _ _ => by kernel_rfl⟩, trivial⟩ (ann := (.two .no (.two .no (.two .no (.two .no (.two .no (.two (.cut ⟨⟨[], [], []⟩, [(.norm, ⟨[2, 3, 4, 6], [], [.s 5 (.dat (.ptr (.pair (.slice (.slice (.leaf 3))) (.pair (.slice (.leaf 3)) (.pair (.slice (.leaf 3)) (.pair (.leaf 3) (.pair (.slice (.int .i64)) (.slice (.int .i64))))))))), .s 9 (.dat (.int .i64))]⟩)]⟩ .no) (.two .no (.two .no (.two (.two .no (.two .no (.cut ⟨⟨[], [], []⟩, [(.norm, ⟨[2, 3, 5, 6, 9, 10], [], [.l (.sl 10) (.own 43 (.leaf 3))]⟩)]⟩ .no))) (.two (.two .no (.two (.cut ⟨⟨[2, 3, 5, 6, 9, 10, 69, 70], [], [.s 71 (.dat (.int .i64)), .l (.sl 10) (.own 43 (.leaf 3))]⟩, [(.exit 0, ⟨[2, 3, 5, 6, 10], [], [.l (.sl 10) (.own 43 (.leaf 3))]⟩)]⟩ (.two (.two .no (.two .no (.two (.two (.two .no (.two .no (.cut ⟨⟨[], [], []⟩, [(.norm, ⟨[2, 3, 5, 6, 9, 10, 69, 70, 71], [], [.l (.sl 10) (.own 43 (.leaf 3))]⟩)]⟩ .no))) .no) .no))) .no)) .no)) .no))))))))))) Tryz.func81 (fun _ _ => by kernel_rfl) rfl (fun v vals x z ha hz => (ZJv x).trans hz) (hq := ⟨ZAs, trivial⟩)
end Go.Eng
set_option maxRecDepth 100000
set_option maxHeartbeats 4000000
namespace Go.Eng
open Go.Proofs Go.RowKit
noncomputable def Z8k:FuncId×Con:=(37,⟨[.pair (.slice (.slice (.leaf 3))) (.pair (.slice (.leaf 3)) (.slice (.leaf 3)))],[.pair (.int .i64) (.pair (.leaf 3) (.pair (.slice (.leaf 3)) (.pair (.slice (.leaf 3)) (.slice (.leaf 3))))),.int .i64],fun p=>ZLm p⟩)
theorem Znv (p:(List (List Rat))×(List Rat)×(List Rat)):Zm ⟨Tryz.prog,[(39,0),(41,2),(43,3),(91,1),(93,4)],[Z4f,Z5j],[],[],[],[],[]⟩ [] Tryz.f37 .no [.pair (.slice (.slice (.leaf 3))) (.pair (.slice (.leaf 3)) (.slice (.leaf 3)))] [.pair (.int .i64) (.pair (.leaf 3) (.pair (.slice (.leaf 3)) (.pair (.slice (.leaf 3)) (.slice (.leaf 3))))),.int .i64] (p)=ZLm p:=by kernel_rfl
theorem Zhx:Zk Tryz.prog Z8k.1 Z8k.2:=Zp (C:=⟨Tryz.prog,[(39,0),(41,2),(43,3),(91,1),(93,4)],[Z4f,Z5j],[],[],[],[],[]⟩) ⟨Zqp,ZPt,trivial⟩ trivial trivial trivial (inl:=[]) trivial (ann:=.no) Tryz.func37 (fun _ _=>by kernel_rfl) rfl (fun v vals x z ha hz=>(Znv x).trans hz)
end Go.Eng
set_option maxRecDepth 100000
set_option maxHeartbeats 4000000
namespace Go.Eng
open Go.Proofs Go.RowKit
noncomputable def ZJg:FuncId×Con:=(24,⟨[.leaf 3,.leaf 3],[.bool],fun p=>Zsf p.1 p.2⟩)
theorem qsame_i (x:Rat) (y:Rat):Zm ⟨Tryz.prog,[(39,0),(41,2),(43,3)],[Z5f],[],[],[],[],[]⟩ [] Tryz.f24 (.two .no (.two (.cut ⟨⟨[],[],[]⟩,[(.norm,⟨[],[],[.s 4 (.dat .bool)]⟩)]⟩ .no) .no)) [.leaf 3,.leaf 3] [.bool] (x,y)=ZKn x y:=by kernel_rfl
theorem Zqr:Zk Tryz.prog ZJg.1 ZJg.2:=Zp (C:=⟨Tryz.prog,[(39,0),(41,2),(43,3)],[Z5f],[],[],[],[],[]⟩) ⟨cmp_k,trivial⟩ trivial trivial trivial (inl:=[]) trivial (ann:=.two .no (.two (.cut ⟨⟨[],[],[]⟩,[(.norm,⟨[],[],[.s 4 (.dat .bool)]⟩)]⟩ .no) .no)) Tryz.func24 (fun _ _=>by kernel_rfl) rfl fun v vals x z ha hz=>(qsame_i x.1 x.2).trans (Zut hz)
end Go.Eng
set_option maxRecDepth 100000
set_option maxHeartbeats 4000000
namespace Go.Eng
open Go.Proofs Go.RowKit
noncomputable def ZFg:FuncId×Con:=(53,⟨[.slice (.leaf 3),.slice (.leaf 3)],[.leaf 3],fun p=>ZNf p.1 p.2⟩)
theorem ldot_i (x : List Rat) (y : List Rat) : Zm ⟨Tryz.prog, [(39, 0), (41, 2), (43, 3), (91, 1), (93, 4)], [Zvc, ZDc, Z1b], [], [], [], [((43, "Add"), 23), ((43, "Mul"), 30)], []⟩ [] Tryz.f53 (.two .no (.two .no (.two (.two .no (.two (.cut ⟨⟨[0, 1, 4, 5, 9], [], [.s 10 (.dat (.int .i64)), .l (.sl 5) (.box 43 (.dat (.leaf 3)))]⟩, [(.exit 0, ⟨[4, 5], [], [.l (.sl 5) (.box 43 (.dat (.leaf 3)))]⟩)]⟩ .no) .no)) .no))) [.slice (.leaf 3), .slice (.leaf 3)] [.leaf 3] (x, y) = ZNf x y := by kernel_rfl
theorem Zxq : Zk Tryz.prog ZFg.1 ZFg.2 := Zp (C := ⟨Tryz.prog, [(39, 0), (41, 2), (43, 3), (91, 1), (93, 4)], [Zvc, ZDc, Z1b], [], [], [], [((43, "Add"), 23), ((43, "Mul"), 30)], []⟩) ⟨Zli, Zhi, ZCg, trivial⟩ trivial trivial ⟨ZXn, ZHj, trivial⟩ (inl := []) trivial (ann := (.two .no (.two .no (.two (.two .no (.two (.cut ⟨⟨[0, 1, 4, 5, 9], [], [.s 10 (.dat (.int .i64)), .l (.sl 5) (.box 43 (.dat (.leaf 3)))]⟩, [(.exit 0, ⟨[4, 5], [], [.l (.sl 5) (.box 43 (.dat (.leaf 3)))]⟩)]⟩ .no) .no)) .no)))) Tryz.func53 (fun _ _ => by kernel_rfl) rfl (fun v vals x z ha hz => (ldot_i x.1 x.2).trans hz)
end Go.Eng
set_option maxRecDepth 100000
set_option maxHeartbeats 4000000
namespace Go.Eng
open Go.Proofs Go.RowKit
noncomputable def Zbh:FuncId×Con:=(69,⟨[.slice (.slice (.leaf 3)),.slice (.leaf 3)],[.slice (.leaf 3)],fun p=>Zsl p.1 p.2⟩)
theorem Zqt (m:List (List Rat)) (x:List Rat):Zm ⟨Tryz.prog,[(39,0),(41,2),(43,3),(91,1),(93,4)],[ZFg],[],[],[],[],[]⟩ [] Tryz.f69 (.two .no (.two .no (.two (.two .no (.two (.cut ⟨⟨[1,8,9],[],[.s 5 (.own 43 (.leaf 3)),.s 10 (.dat (.int .i64))]⟩,[(.exit 0,⟨[],[],[.s 5 (.own 43 (.leaf 3))]⟩)]⟩ .no) .no)) .no))) [.slice (.slice (.leaf 3)),.slice (.leaf 3)] [.slice (.leaf 3)] (m,x)=Zsl m x:=by kernel_rfl
theorem Zyr:Zk Tryz.prog Zbh.1 Zbh.2:=Zp (C:=⟨Tryz.prog,[(39,0),(41,2),(43,3),(91,1),(93,4)],[ZFg],[],[],[],[],[]⟩) ⟨Zxq,trivial⟩ trivial trivial trivial (inl:=[]) trivial (ann:=(.two .no (.two .no (.two (.two .no (.two (.cut ⟨⟨[1,8,9],[],[.s 5 (.own 43 (.leaf 3)),.s 10 (.dat (.int .i64))]⟩,[(.exit 0,⟨[],[],[.s 5 (.own 43 (.leaf 3))]⟩)]⟩ .no) .no)) .no)))) Tryz.func69 (fun _ _=>by kernel_rfl) rfl (fun v vals x z ha hz=>(Zqt x.1 x.2).trans hz)
end Go.Eng
set_option maxRecDepth 100000
set_option maxHeartbeats 4000000
namespace Go.Eng
open Go.Proofs Go.RowKit
noncomputable def ZEe:FuncId×Con:=(85,⟨[.slice (.leaf 3)],[.bool],fun p=>ZOf p⟩)
theorem lnone_i (x : List Rat) : Zm ⟨Tryz.prog, [(39, 0), (41, 2), (43, 3), (91, 1), (93, 4)], [ZKd], [], [], [], [((43, "Sign"), 72)], []⟩ [(132, Tryz.f132, .no), (133, Tryz.f133, .no), (160, Tryz.f160, .cut ⟨⟨[], [], []⟩, [(.ret, ⟨[], [], [.s 1000 (.dat (.int .i64))]⟩)]⟩ (.two .no (.two (.two .no (.two (.cut ⟨⟨[0, 1, 7], [], [.s 8 (.dat (.int .i64))]⟩, [(.exit 0, ⟨[], [], []⟩), (.ret, ⟨[], [], [.s 1000 (.dat (.int .i64))]⟩)]⟩ .no) .no)) .no)))] Tryz.f85 .no [.slice (.leaf 3)] [.bool] (x) = ZOf x := by kernel_rfl
theorem Z7n : Zk Tryz.prog ZEe.1 ZEe.2 := Zp (C := ⟨Tryz.prog, [(39, 0), (41, 2), (43, 3), (91, 1), (93, 4)], [ZKd], [], [], [], [((43, "Sign"), 72)], []⟩) ⟨Z0j, trivial⟩ trivial trivial ⟨Zbm, trivial⟩ (inl := [(132, Tryz.f132, .no), (133, Tryz.f133, .no), (160, Tryz.f160, .cut ⟨⟨[], [], []⟩, [(.ret, ⟨[], [], [.s 1000 (.dat (.int .i64))]⟩)]⟩ (.two .no (.two (.two .no (.two (.cut ⟨⟨[0, 1, 7], [], [.s 8 (.dat (.int .i64))]⟩, [(.exit 0, ⟨[], [], []⟩), (.ret, ⟨[], [], [.s 1000 (.dat (.int .i64))]⟩)]⟩ .no) .no)) .no)))]) ⟨⟨Tryz.func132, fun _ _ => by kernel_rfl⟩, ⟨Tryz.func133, fun _ _ => by kernel_rfl⟩, ⟨Tryz.func160, fun _ _ => by kernel_rfl⟩, trivial⟩ (ann := .no) Tryz.func85 (fun _ _ => by kernel_rfl) rfl (fun v vals x z ha hz => (lnone_i x).trans hz)
end Go.Eng
set_option maxRecDepth 100000
set_option maxHeartbeats 4000000
namespace Go.Eng
open Go.Proofs Go.RowKit
noncomputable def ZUe:FuncId×Con:=(87,⟨[.slice (.leaf 3),.slice (.leaf 3)],[.bool],fun p=>Z7h p.1 p.2⟩)
theorem Zsx (x : List Rat) (y : List Rat) : Zm ⟨Tryz.prog, [(39, 0), (41, 2), (43, 3), (91, 1), (93, 4)], [Zgg], [], [], [], [((43, "Cmp"), 31)], []⟩ [] Tryz.f87 (.two .no (.two (.two .no (.two (.cut ⟨⟨[0, 1, 7], [], [.s 8 (.dat (.int .i64))]⟩, [(.exit 0, ⟨[], [], []⟩), (.ret, ⟨[], [], [.s 1000 (.dat .bool)]⟩)]⟩ .no) .no)) .no)) [.slice (.leaf 3), .slice (.leaf 3)] [.bool] (x, y) = Z7h x y := by kernel_rfl
theorem Zko : Zk Tryz.prog ZUe.1 ZUe.2 := Zp (C := ⟨Tryz.prog, [(39, 0), (41, 2), (43, 3), (91, 1), (93, 4)], [Zgg], [], [], [], [((43, "Cmp"), 31)], []⟩) ⟨ZIo, trivial⟩ trivial trivial ⟨ZIp, trivial⟩ (inl := []) trivial (ann := (.two .no (.two (.two .no (.two (.cut ⟨⟨[0, 1, 7], [], [.s 8 (.dat (.int .i64))]⟩, [(.exit 0, ⟨[], [], []⟩), (.ret, ⟨[], [], [.s 1000 (.dat .bool)]⟩)]⟩ .no) .no)) .no))) Tryz.func87 (fun _ _ => by kernel_rfl) rfl (fun v vals x z ha hz => (Zsx x.1 x.2).trans hz)
end Go.Eng
set_option maxRecDepth 100000
set_option maxHeartbeats 4000000
namespace Go.Eng
open Go.Proofs Go.RowKit
noncomputable def Zel:FuncId×Con:=(83,⟨[.pair (.slice (.slice (.leaf 3))) (.pair (.slice (.leaf 3)) (.slice (.leaf 3))),.slice (.leaf 3)],[.bool],fun p=>Zan p.1 p.2⟩)
theorem Z5u (p:(List (List Rat))×(List Rat)×(List Rat)) (x:List Rat):Zm ⟨Tryz.prog,[(39,0),(41,2),(43,3),(91,1),(93,4)],[Zbh,ZEe,ZUe],[],[],[],[],[]⟩ [] Tryz.f83 (.two .no (.two (.cut ⟨⟨[],[],[]⟩,[(.norm,⟨[],[],[.s 4 (.dat .bool)]⟩)]⟩ .no) .no)) [.pair (.slice (.slice (.leaf 3))) (.pair (.slice (.leaf 3)) (.slice (.leaf 3))),.slice (.leaf 3)] [.bool] (p,x)=Zan p x:=by kernel_rfl
theorem Zos:Zk Tryz.prog Zel.1 Zel.2:=Zp (C:=⟨Tryz.prog,[(39,0),(41,2),(43,3),(91,1),(93,4)],[Zbh,ZEe,ZUe],[],[],[],[],[]⟩) ⟨Zyr,Z7n,Zko,trivial⟩ trivial trivial trivial (inl:=[]) trivial (ann:=(.two .no (.two (.cut ⟨⟨[],[],[]⟩,[(.norm,⟨[],[],[.s 4 (.dat .bool)]⟩)]⟩ .no) .no))) Tryz.func83 (fun _ _=>by kernel_rfl) rfl (fun v vals x z ha hz=>(Z5u x.1 x.2).trans hz)
end Go.Eng
set_option maxRecDepth 100000
set_option maxHeartbeats 4000000
namespace Go.Eng
open Go.Proofs Go.RowKit
noncomputable def Zug:FuncId×Con:=(86,⟨[.pair (.slice (.slice (.leaf 3))) (.pair (.slice (.leaf 3)) (.slice (.leaf 3))),.slice (.leaf 3)],[.slice (.leaf 3)],fun p=>ZOl p.1 p.2⟩)
theorem psums_i (p : (List (List Rat)) × (List Rat) × (List Rat)) (y : List Rat) : Zm ⟨Tryz.prog, [(39, 0), (41, 2), (43, 3), (91, 1), (93, 4)], [Zvc, ZDc], [], [ZFc], [], [((43, "Add"), 23), ((43, "Mul"), 30)], []⟩ [] Tryz.f86 (.two .no (.two .no (.two (.two .no (.two (.cut ⟨⟨[1, 5, 15, 16], [], [.s 17 (.dat (.int .i64)), .l (.sl 5) (.own 43 (.leaf 3))]⟩, [(.exit 0, ⟨[5], [], [.l (.sl 5) (.own 43 (.leaf 3))]⟩)]⟩ (.two (.two .no (.two .no (.two (.two (.two .no (.two .no (.two (.cut ⟨⟨[1, 5, 6, 15, 16, 17, 22, 23], [], [.s 24 (.dat (.int .i64)), .l (.sl 5) (.own 43 (.leaf 3))]⟩, [(.exit 2, ⟨[1, 5, 15, 16, 17], [], [.l (.sl 5) (.own 43 (.leaf 3))]⟩)]⟩ .no) .no))) .no) .no))) .no)) .no)) .no))) [.pair (.slice (.slice (.leaf 3))) (.pair (.slice (.leaf 3)) (.slice (.leaf 3))), .slice (.leaf 3)] [.slice (.leaf 3)] (p, y) = ZOl p y := by kernel_rfl
theorem ZQr : Zk Tryz.prog Zug.1 Zug.2 := Zp (C := ⟨Tryz.prog, [(39, 0), (41, 2), (43, 3), (91, 1), (93, 4)], [Zvc, ZDc], [], [ZFc], [], [((43, "Add"), 23), ((43, "Mul"), 30)], []⟩) ⟨Zli, Zhi, trivial⟩ ⟨ZLi, trivial⟩ trivial ⟨ZXn, ZHj, trivial⟩ (inl := []) trivial (ann := (.two .no (.two .no (.two (.two .no (.two (.cut ⟨⟨[1, 5, 15, 16], [], [.s 17 (.dat (.int .i64)), .l (.sl 5) (.own 43 (.leaf 3))]⟩, [(.exit 0, ⟨[5], [], [.l (.sl 5) (.own 43 (.leaf 3))]⟩)]⟩ (.two (.two .no (.two .no (.two (.two (.two .no (.two .no (.two (.cut ⟨⟨[1, 5, 6, 15, 16, 17, 22, 23], [], [.s 24 (.dat (.int .i64)), .l (.sl 5) (.own 43 (.leaf 3))]⟩, [(.exit 2, ⟨[1, 5, 15, 16, 17], [], [.l (.sl 5) (.own 43 (.leaf 3))]⟩)]⟩ .no) .no))) .no) .no))) .no)) .no)) .no)))) Tryz.func86 (fun _ _ => by kernel_rfl) rfl (fun v vals x z ha hz => (psums_i x.1 x.2).trans hz)
end Go.Eng
set_option maxRecDepth 100000
set_option maxHeartbeats 4000000
namespace Go.Eng
open Go.Proofs Go.RowKit
noncomputable def Z5i:FuncId×Con:=(84,⟨[.pair (.slice (.slice (.leaf 3))) (.pair (.slice (.leaf 3)) (.slice (.leaf 3))),.slice (.leaf 3)],[.bool],fun p=>ZVm p.1 p.2⟩)
theorem pdual_i (p:(List (List Rat))×(List Rat)×(List Rat)) (y:List Rat):Zm ⟨Tryz.prog,[(39,0),(41,2),(43,3),(91,1),(93,4)],[ZEe,Zug,ZUe],[],[],[],[],[]⟩ [] Tryz.f84 (.two .no (.two (.cut ⟨⟨[],[],[]⟩,[(.norm,⟨[],[],[.s 4 (.dat .bool)]⟩)]⟩ .no) .no)) [.pair (.slice (.slice (.leaf 3))) (.pair (.slice (.leaf 3)) (.slice (.leaf 3))),.slice (.leaf 3)] [.bool] (p,y)=ZVm p y:=by kernel_rfl
theorem pdual_k:Zk Tryz.prog Z5i.1 Z5i.2:=Zp (C:=⟨Tryz.prog,[(39,0),(41,2),(43,3),(91,1),(93,4)],[ZEe,Zug,ZUe],[],[],[],[],[]⟩) ⟨Z7n,ZQr,Zko,trivial⟩ trivial trivial trivial (inl:=[]) trivial (ann:=(.two .no (.two (.cut ⟨⟨[],[],[]⟩,[(.norm,⟨[],[],[.s 4 (.dat .bool)]⟩)]⟩ .no) .no))) Tryz.func84 (fun _ _=>by kernel_rfl) rfl (fun v vals x z ha hz=>(pdual_i x.1 x.2).trans hz)
end Go.Eng
set_option maxRecDepth 100000
set_option maxHeartbeats 4000000
namespace Go.Eng
open Go.Proofs Go.RowKit
noncomputable def Zql:FuncId×Con:=(39,⟨[.pair (.slice (.slice (.leaf 3))) (.pair (.slice (.leaf 3)) (.slice (.leaf 3))),.pair (.int .i64) (.pair (.leaf 3) (.pair (.slice (.leaf 3)) (.pair (.slice (.leaf 3)) (.slice (.leaf 3)))))],[.bool],fun p=>Z4n p.1 p.2⟩)
theorem Zru (p : (List (List Rat)) × (List Rat) × (List Rat)) (a : Int × Rat × (List Rat) × (List Rat) × (List Rat)) : Zm ⟨Tryz.prog, [(39, 0), (41, 2), (43, 3), (91, 1), (93, 4)], [Znd, ZJg, ZFg, Zbh, ZKd, Z4f, Zel, Z5i, ZEe, Zug, ZUe], [], [ZFc], [], [((43, "Same"), 24), ((43, "Sign"), 72), ((43, "Zero"), 22)], []⟩ [] Tryz.f39 (.two .no (.two .no (.two (.cut ⟨⟨[], [], []⟩, [(.norm, ⟨[2, 3], [], [.s 5 (.dat .bool)]⟩)]⟩ .no) (.two (.two .no (.two (.two .no (.two (.two (.cut ⟨⟨[], [], []⟩, [(.norm, ⟨[], [], [.s 4 (.dat .bool)]⟩)]⟩ .no) .no) (.two .no (.two (.two (.cut ⟨⟨[], [], []⟩, [(.norm, ⟨[], [], [.s 4 (.dat .bool)]⟩)]⟩ .no) .no) (.two .no (.two (.two (.two (.cut ⟨⟨[], [], []⟩, [(.norm, ⟨[2, 3], [], [.s 135 (.dat .bool)]⟩)]⟩ .no) .no) (.two (.cut ⟨⟨[], [], []⟩, [(.norm, ⟨[], [], [.s 4 (.dat .bool)]⟩)]⟩ .no) .no)) .no)))))) .no)) .no)))) [.pair (.slice (.slice (.leaf 3))) (.pair (.slice (.leaf 3)) (.slice (.leaf 3))), .pair (.int .i64) (.pair (.leaf 3) (.pair (.slice (.leaf 3)) (.pair (.slice (.leaf 3)) (.slice (.leaf 3)))))] [.bool] (p, a) = Z4n p a := by kernel_rfl
theorem ZJt : Zk Tryz.prog Zql.1 Zql.2 := Zp (C := ⟨Tryz.prog, [(39, 0), (41, 2), (43, 3), (91, 1), (93, 4)], [Znd, ZJg, ZFg, Zbh, ZKd, Z4f, Zel, Z5i, ZEe, Zug, ZUe], [], [ZFc], [], [((43, "Same"), 24), ((43, "Sign"), 72), ((43, "Zero"), 22)], []⟩) ⟨Z4j, Zqr, Zxq, Zyr, Z0j, Zqp, Zos, pdual_k, Z7n, ZQr, Zko, trivial⟩ ⟨ZLi, trivial⟩ trivial ⟨Z4w, Zbm, Zno, trivial⟩ (inl := []) trivial (ann := (.two .no (.two .no (.two (.cut ⟨⟨[], [], []⟩, [(.norm, ⟨[2, 3], [], [.s 5 (.dat .bool)]⟩)]⟩ .no) (.two (.two .no (.two (.two .no (.two (.two (.cut ⟨⟨[], [], []⟩, [(.norm, ⟨[], [], [.s 4 (.dat .bool)]⟩)]⟩ .no) .no) (.two .no (.two (.two (.cut ⟨⟨[], [], []⟩, [(.norm, ⟨[], [], [.s 4 (.dat .bool)]⟩)]⟩ .no) .no) (.two .no (.two (.two (.two (.cut ⟨⟨[], [], []⟩, [(.norm, ⟨[2, 3], [], [.s 135 (.dat .bool)]⟩)]⟩ .no) .no) (.two (.cut ⟨⟨[], [], []⟩, [(.norm, ⟨[], [], [.s 4 (.dat .bool)]⟩)]⟩ .no) .no)) .no)))))) .no)) .no))))) Tryz.func39 (fun _ _ => by kernel_rfl) rfl (fun v vals x z ha hz => (Zru x.1 x.2).trans hz)
end Go.Eng
set_option maxRecDepth 100000
set_option maxHeartbeats 4000000
namespace Go.Eng
open Go.Proofs Go.RowKit
noncomputable def Zjl:FuncId×Con:=(8,⟨[],[.bool],fun _=>Zhg⟩)
theorem Z9w  : Zm ⟨Tryz.prog,[(39,0),(41,2),(43,3),(91,1),(93,4)],[Z8e,ZQe,Z6f,Zxk,Ztj,Z8k,ZMg,Zql],[],[],[],[],[]⟩ [] Tryz.f8 (.two .no (.two .no (.two .no (.two .no (.two .no (.two .no (.two .no (.two .no (.two (.cut ⟨⟨[],[],[]⟩,[(.norm,⟨[],[],[.s 0 (.dat .bool)]⟩)]⟩ .no) .no))))))))) [] [.bool] ()=Zhg  := by kernel_rfl
theorem Z6s:Zk Tryz.prog Zjl.1 Zjl.2:=Zp (C:=⟨Tryz.prog,[(39,0),(41,2),(43,3),(91,1),(93,4)],[Z8e,ZQe,Z6f,Zxk,Ztj,Z8k,ZMg,Zql],[],[],[],[],[]⟩) ⟨Zum,Zon,Z8q,Zkt,Zbt,Zhx,ZHr,ZJt,trivial⟩ trivial trivial trivial (inl:=[]) trivial (ann:=(.two .no (.two .no (.two .no (.two .no (.two .no (.two .no (.two .no (.two .no (.two (.cut ⟨⟨[],[],[]⟩,[(.norm,⟨[],[],[.s 0 (.dat .bool)]⟩)]⟩ .no) .no)))))))))) Tryz.func8 (fun _ _=>by kernel_rfl) rfl (fun v vals x z ha hz=>(Z9w ).trans hz)
end Go.Eng
set_option maxRecDepth 100000
set_option maxHeartbeats 4000000
namespace Go.Eng
open Go.Proofs Go.RowKit
noncomputable def ZFk:FuncId×Con:=(212,⟨[.leaf 3],[.leaf 3],fun p=>Zvn p⟩)
theorem qconj_i (x:Rat):Zm ⟨Tryz.prog,[(39,0),(41,2),(43,3),(91,1),(93,4)],[],[],[],[],[],[]⟩ [] Tryz.f212 .no [.leaf 3] [.leaf 3] (x)=Zvn x:=by kernel_rfl
theorem qconj_k:Zk Tryz.prog ZFk.1 ZFk.2:=Zp (C:=⟨Tryz.prog,[(39,0),(41,2),(43,3),(91,1),(93,4)],[],[],[],[],[],[]⟩) trivial trivial trivial trivial (inl:=[]) trivial (ann:=.no) Tryz.func212 (fun _ _=>by kernel_rfl) rfl (fun v vals x z ha hz=>(qconj_i x).trans hz)
end Go.Eng
set_option maxRecDepth 100000
set_option maxHeartbeats 4000000
namespace Go.Eng
open Go.Proofs Go.RowKit
noncomputable def ZFj:FuncId×Con:=(46,⟨[.leaf 3],[.leaf 3],fun p=>ZOi p⟩)
theorem lconj_i (x : Rat) : Zm ⟨Tryz.prog, [(39, 0), (41, 2), (43, 3), (91, 1), (93, 4)], [ZFk], [], [], [], [((43, "Conj"), 212)], []⟩ [] Tryz.f46 .no [.leaf 3] [.leaf 3] (x) = ZOi x := by kernel_rfl
theorem lconj_k : Zk Tryz.prog ZFj.1 ZFj.2 := Zp (C := ⟨Tryz.prog, [(39, 0), (41, 2), (43, 3), (91, 1), (93, 4)], [ZFk], [], [], [], [((43, "Conj"), 212)], []⟩) ⟨qconj_k, trivial⟩ trivial trivial ⟨Znw, trivial⟩ (inl := []) trivial (ann := .no) Tryz.func46 (fun _ _ => by kernel_rfl) rfl (fun v vals x z ha hz => (lconj_i x).trans hz)
end Go.Eng
set_option maxRecDepth 100000
set_option maxHeartbeats 4000000
namespace Go.Eng
open Go.Proofs Go.RowKit
noncomputable def ZRi:FuncId×Con:=(12,⟨[.slice (.slice (.leaf 3))],[.slice (.slice (.leaf 3)),.int .i64],fun p=>Zci p⟩)
theorem Zes (m:List (List Rat)):Zm ⟨Tryz.prog,[(39,0),(41,2),(43,3),(91,1),(93,4)],[Zfd,ZFj,Zed],[12],[],[],[],[]⟩ [(45,Tryz.f45,.cut ⟨⟨[],[],[]⟩,[(.ret,⟨[],[],[.s 1000 (.dat (.slice (.slice (.leaf 3))))]⟩)]⟩ (.two .no (.two .no (.two (.two .no (.two (.cut ⟨⟨[1,5,13,14],[],[.s 15 (.dat (.int .i64)),.l (.sl 5) (.mat 30 43 (.leaf 3))]⟩,[(.exit 0,⟨[5],[],[.l (.sl 5) (.mat 30 43 (.leaf 3))]⟩)]⟩ (.two (.two .no (.two .no (.two (.two (.two .no (.two .no (.two (.cut ⟨⟨[1,5,13,14,15,19,20],[],[.s 21 (.dat (.int .i64)),.l (.sl 5) (.mat 30 43 (.leaf 3))]⟩,[(.exit 2,⟨[1,5,13,14,15],[],[.l (.sl 5) (.mat 30 43 (.leaf 3))]⟩)]⟩ .no) .no))) .no) .no))) .no)) .no)) .no))))] Tryz.f12 .no [.slice (.slice (.leaf 3))] [.slice (.slice (.leaf 3)),.int .i64] (m)=Zci m:=by kernel_rfl
theorem Z1w:Zk Tryz.prog ZRi.1 ZRi.2:=Zp (C:=⟨Tryz.prog,[(39,0),(41,2),(43,3),(91,1),(93,4)],[Zfd,ZFj,Zed],[12],[],[],[],[]⟩) ⟨Znj,lconj_k,Zgl,trivial⟩ trivial trivial trivial (inl:=[(45,Tryz.f45,.cut ⟨⟨[],[],[]⟩,[(.ret,⟨[],[],[.s 1000 (.dat (.slice (.slice (.leaf 3))))]⟩)]⟩ (.two .no (.two .no (.two (.two .no (.two (.cut ⟨⟨[1,5,13,14],[],[.s 15 (.dat (.int .i64)),.l (.sl 5) (.mat 30 43 (.leaf 3))]⟩,[(.exit 0,⟨[5],[],[.l (.sl 5) (.mat 30 43 (.leaf 3))]⟩)]⟩ (.two (.two .no (.two .no (.two (.two (.two .no (.two .no (.two (.cut ⟨⟨[1,5,13,14,15,19,20],[],[.s 21 (.dat (.int .i64)),.l (.sl 5) (.mat 30 43 (.leaf 3))]⟩,[(.exit 2,⟨[1,5,13,14,15],[],[.l (.sl 5) (.mat 30 43 (.leaf 3))]⟩)]⟩ .no) .no))) .no) .no))) .no)) .no)) .no))))]) ⟨⟨Tryz.func45,fun _ _=>by kernel_rfl⟩,trivial⟩ (ann:=.no) Tryz.func12 (fun _ _=>by kernel_rfl) rfl (fun v vals x z ha hz=>(Zes x).trans hz)
end Go.Eng
set_option maxRecDepth 100000
set_option maxHeartbeats 4000000
namespace Go.Eng
open Go.Proofs Go.RowKit
noncomputable def Zwj:FuncId×Con:=(13,⟨[.slice (.slice (.leaf 3))],[.int .i64,.int .i64],fun p=>ZGe p⟩)
theorem Rank_i (m:List (List Rat)):Zm ⟨Tryz.prog,[(39,0),(41,2),(43,3),(91,1),(93,4)],[ZQe],[],[],[],[],[]⟩ [] Tryz.f13 .no [.slice (.slice (.leaf 3))] [.int .i64,.int .i64] (m)=ZGe m:=by kernel_rfl
theorem Rank_k:Zk Tryz.prog Zwj.1 Zwj.2:=Zp (C:=⟨Tryz.prog,[(39,0),(41,2),(43,3),(91,1),(93,4)],[ZQe],[],[],[],[],[]⟩) ⟨Zon,trivial⟩ trivial trivial trivial (inl:=[]) trivial (ann:=.no) Tryz.func13 (fun _ _=>by kernel_rfl) rfl (fun v vals x z ha hz=>(Rank_i x).trans hz)
end Go.Eng
set_option maxRecDepth 100000
set_option maxHeartbeats 4000000
namespace Go.Eng
open Go.Proofs Go.RowKit
noncomputable def Z2g:FuncId×Con:=(16,⟨[.slice (.leaf 3),.slice (.leaf 3)],[.bool],fun p=>ZAf p.1 p.2⟩)
theorem Zpu (x:List Rat) (y:List Rat):Zm ⟨Tryz.prog,[(39,0),(41,2),(43,3),(91,1),(93,4)],[ZJg],[],[],[],[],[]⟩ [] Tryz.f16 (.two .no (.two .no (.two (.two .no (.two (.cut ⟨⟨[0,1,12],[],[.s 13 (.dat (.int .i64))]⟩,[(.exit 0,⟨[],[],[]⟩),(.ret,⟨[],[],[.s 1000 (.dat .bool)]⟩)]⟩ .no) .no)) .no))) [.slice (.leaf 3),.slice (.leaf 3)] [.bool] (x,y)=ZAf x y:=by kernel_rfl
theorem Zmp:Zk Tryz.prog Z2g.1 Z2g.2:=Zp (C:=⟨Tryz.prog,[(39,0),(41,2),(43,3),(91,1),(93,4)],[ZJg],[],[],[],[],[]⟩) ⟨Zqr,trivial⟩ trivial trivial trivial (inl:=[]) trivial (ann:=(.two .no (.two .no (.two (.two .no (.two (.cut ⟨⟨[0,1,12],[],[.s 13 (.dat (.int .i64))]⟩,[(.exit 0,⟨[],[],[]⟩),(.ret,⟨[],[],[.s 1000 (.dat .bool)]⟩)]⟩ .no) .no)) .no)))) Tryz.func16 (fun _ _=>by kernel_rfl) rfl (fun v vals x z ha hz=>(Zpu x.1 x.2).trans hz)
end Go.Eng
set_option maxRecDepth 100000
set_option maxHeartbeats 4000000
namespace Go.Eng
open Go.Proofs Go.RowKit
noncomputable def ZIj:FuncId×Con:=(15,⟨[.slice (.slice (.leaf 3)),.slice (.slice (.leaf 3))],[.bool],fun p=>Zei p.1 p.2⟩)
theorem ZPu (x:List (List Rat)) (y:List (List Rat)):Zm ⟨Tryz.prog,[(39,0),(41,2),(43,3),(91,1),(93,4)],[Z2g],[],[],[],[],[]⟩ [] Tryz.f15 (.two .no (.two .no (.two (.two .no (.two (.cut ⟨⟨[0,1,12],[],[.s 13 (.dat (.int .i64))]⟩,[(.exit 0,⟨[],[],[]⟩),(.ret,⟨[],[],[.s 1000 (.dat .bool)]⟩)]⟩ .no) .no)) .no))) [.slice (.slice (.leaf 3)),.slice (.slice (.leaf 3))] [.bool] (x,y)=Zei x y:=by kernel_rfl
theorem Zss:Zk Tryz.prog ZIj.1 ZIj.2:=Zp (C:=⟨Tryz.prog,[(39,0),(41,2),(43,3),(91,1),(93,4)],[Z2g],[],[],[],[],[]⟩) ⟨Zmp,trivial⟩ trivial trivial trivial (inl:=[]) trivial (ann:=(.two .no (.two .no (.two (.two .no (.two (.cut ⟨⟨[0,1,12],[],[.s 13 (.dat (.int .i64))]⟩,[(.exit 0,⟨[],[],[]⟩),(.ret,⟨[],[],[.s 1000 (.dat .bool)]⟩)]⟩ .no) .no)) .no)))) Tryz.func15 (fun _ _=>by kernel_rfl) rfl (fun v vals x z ha hz=>(ZPu x.1 x.2).trans hz)
end Go.Eng
set_option maxRecDepth 100000
set_option maxHeartbeats 4000000
namespace Go.Eng
open Go.Proofs Go.RowKit
noncomputable def Z4k:FuncId×Con:=(21,⟨[.slice (.leaf 3),.slice (.leaf 3)],[.leaf 3],fun p=>ZBh p.1 p.2⟩)
theorem dot2_i (x:List Rat) (y:List Rat):Zm ⟨Tryz.prog,[(39,0),(41,2),(43,3),(91,1),(93,4)],[Zvc,ZDc],[],[],[],[],[]⟩ [] Tryz.f21 (.two .no (.two .no (.two (.two .no (.two (.cut ⟨⟨[0,1,4,5,8],[],[.s 9 (.dat (.int .i64)),.l (.sl 5) (.box 43 (.dat (.leaf 3)))]⟩,[(.exit 0,⟨[4,5],[],[.l (.sl 5) (.box 43 (.dat (.leaf 3)))]⟩)]⟩ .no) .no)) .no))) [.slice (.leaf 3),.slice (.leaf 3)] [.leaf 3] (x,y)=ZBh x y:=by kernel_rfl
theorem dot2_k:Zk Tryz.prog Z4k.1 Z4k.2:=Zp (C:=⟨Tryz.prog,[(39,0),(41,2),(43,3),(91,1),(93,4)],[Zvc,ZDc],[],[],[],[],[]⟩) ⟨Zli,Zhi,trivial⟩ trivial trivial trivial (inl:=[]) trivial (ann:=(.two .no (.two .no (.two (.two .no (.two (.cut ⟨⟨[0,1,4,5,8],[],[.s 9 (.dat (.int .i64)),.l (.sl 5) (.box 43 (.dat (.leaf 3)))]⟩,[(.exit 0,⟨[4,5],[],[.l (.sl 5) (.box 43 (.dat (.leaf 3)))]⟩)]⟩ .no) .no)) .no)))) Tryz.func21 (fun _ _=>by kernel_rfl) rfl (fun v vals x z ha hz=>(dot2_i x.1 x.2).trans hz)
end Go.Eng
set_option maxRecDepth 100000
set_option maxHeartbeats 4000000
namespace Go.Eng
open Go.Proofs Go.RowKit
noncomputable def Zkk:FuncId×ConO:=(17,⟨[.slice (.slice (.leaf 3)),.slice (.leaf 3)],43,.leaf 3,fun p=>Z3f p.1 p.2⟩)
theorem ZXs (m:List (List Rat)) (x:List Rat):Zth ⟨Tryz.prog,[(39,0),(41,2),(43,3),(91,1),(93,4)],[Z4k],[],[],[],[],[]⟩ [] Tryz.f17 (.two .no (.two .no (.two (.two .no (.two (.cut ⟨⟨[0,1,5,11],[],[.s 12 (.dat (.int .i64)),.l (.sl 5) (.own 43 (.leaf 3))]⟩,[(.exit 0,⟨[5],[],[.l (.sl 5) (.own 43 (.leaf 3))]⟩)]⟩ .no) .no)) .no))) [.slice (.slice (.leaf 3)),.slice (.leaf 3)] 43 (.leaf 3) (m,x)=Z3f m x:=by kernel_rfl
theorem Zrs:ZOe Tryz.prog Zkk.1 Zkk.2:=ZVo (C:=⟨Tryz.prog,[(39,0),(41,2),(43,3),(91,1),(93,4)],[Z4k],[],[],[],[],[]⟩) ⟨dot2_k,trivial⟩ trivial trivial trivial (inl:=[]) trivial (ann:=(.two .no (.two .no (.two (.two .no (.two (.cut ⟨⟨[0,1,5,11],[],[.s 12 (.dat (.int .i64)),.l (.sl 5) (.own 43 (.leaf 3))]⟩,[(.exit 0,⟨[5],[],[.l (.sl 5) (.own 43 (.leaf 3))]⟩)]⟩ .no) .no)) .no)))) Tryz.func17 (fun _ _=>by kernel_rfl) rfl (fun x z hz=>(ZXs x.1 x.2).trans hz)
end Go.Eng
set_option maxRecDepth 100000
set_option maxHeartbeats 4000000
namespace Go.Eng
open Go.Proofs Go.RowKit
noncomputable def ZMl:FuncId×Con:=(51,⟨[.slice (.slice (.leaf 3)),.slice (.slice (.leaf 3))],[.slice (.slice (.leaf 3))],fun p=>Zai p.1 p.2⟩)
theorem Zmv (m:List (List Rat)) (b:List (List Rat)):Zm ⟨Tryz.prog,[(39,0),(41,2),(43,3),(91,1),(93,4)],[],[8],[Zid],[],[],[]⟩ [(95,Tryz.f95,.two .no (.two .no (.two (.two .no (.two (.cut ⟨⟨[3,9,10],[],[.s 11 (.dat (.int .i64)),.l (.sl 3) (.mat 30 43 (.leaf 3))]⟩,[(.exit 0,⟨[3],[],[.l (.sl 3) (.mat 30 43 (.leaf 3))]⟩)]⟩ .no) .no)) .no)))] Tryz.f51 (.two .no (.two .no (.two (.two .no (.two (.cut ⟨⟨[1,5,10],[],[.s 11 (.dat (.int .i64)),.l (.sl 5) (.mat 30 43 (.leaf 3))]⟩,[(.exit 0,⟨[5],[],[.l (.sl 5) (.mat 30 43 (.leaf 3))]⟩)]⟩ .no) .no)) .no))) [.slice (.slice (.leaf 3)),.slice (.slice (.leaf 3))] [.slice (.slice (.leaf 3))] (m,b)=Zai m b:=by kernel_rfl
theorem Zlv:Zk Tryz.prog ZMl.1 ZMl.2:=Zp (C:=⟨Tryz.prog,[(39,0),(41,2),(43,3),(91,1),(93,4)],[],[8],[Zid],[],[],[]⟩) trivial ⟨ZEk,trivial⟩ trivial trivial (inl:=[(95,Tryz.f95,.two .no (.two .no (.two (.two .no (.two (.cut ⟨⟨[3,9,10],[],[.s 11 (.dat (.int .i64)),.l (.sl 3) (.mat 30 43 (.leaf 3))]⟩,[(.exit 0,⟨[3],[],[.l (.sl 3) (.mat 30 43 (.leaf 3))]⟩)]⟩ .no) .no)) .no)))]) ⟨⟨Tryz.func95,fun _ _=>by kernel_rfl⟩,trivial⟩ (ann:=(.two .no (.two .no (.two (.two .no (.two (.cut ⟨⟨[1,5,10],[],[.s 11 (.dat (.int .i64)),.l (.sl 5) (.mat 30 43 (.leaf 3))]⟩,[(.exit 0,⟨[5],[],[.l (.sl 5) (.mat 30 43 (.leaf 3))]⟩)]⟩ .no) .no)) .no)))) Tryz.func51 (fun _ _=>by kernel_rfl) rfl (fun v vals x z ha hz=>(Zmv x.1 x.2).trans hz)
end Go.Eng
set_option maxRecDepth 100000
set_option maxHeartbeats 4000000
namespace Go.Eng
open Go.Proofs Go.RowKit
noncomputable def Z9j:FuncId×Con:=(52,⟨[.slice (.leaf 3)],[.slice (.slice (.leaf 3))],fun p=>Zgi p⟩)
theorem ZUv (b:List Rat):Zm ⟨Tryz.prog,[(39,0),(41,2),(43,3),(91,1),(93,4)],[],[8],[],[],[],[]⟩ [] Tryz.f52 (.two .no (.two .no (.two (.two .no (.two (.cut ⟨⟨[3,9,10],[],[.s 11 (.dat (.int .i64)),.l (.sl 3) (.mat 30 43 (.leaf 3))]⟩,[(.exit 0,⟨[3],[],[.l (.sl 3) (.mat 30 43 (.leaf 3))]⟩)]⟩ .no) .no)) .no))) [.slice (.leaf 3)] [.slice (.slice (.leaf 3))] (b)=Zgi b:=by kernel_rfl
theorem ZLv:Zk Tryz.prog Z9j.1 Z9j.2:=Zp (C:=⟨Tryz.prog,[(39,0),(41,2),(43,3),(91,1),(93,4)],[],[8],[],[],[],[]⟩) trivial trivial trivial trivial (inl:=[]) trivial (ann:=(.two .no (.two .no (.two (.two .no (.two (.cut ⟨⟨[3,9,10],[],[.s 11 (.dat (.int .i64)),.l (.sl 3) (.mat 30 43 (.leaf 3))]⟩,[(.exit 0,⟨[3],[],[.l (.sl 3) (.mat 30 43 (.leaf 3))]⟩)]⟩ .no) .no)) .no)))) Tryz.func52 (fun _ _=>by kernel_rfl) rfl (fun v vals x z ha hz=>(ZUv x).trans hz)
end Go.Eng
set_option maxRecDepth 100000
set_option maxHeartbeats 4000000
namespace Go.Eng
open Go.Proofs Go.RowKit
noncomputable def ZYk:FuncId×Con:=(18,⟨[.slice (.slice (.leaf 3)),.slice (.leaf 3)],[.slice (.leaf 3),.int .i64],fun p=>Ztg p.1 p.2⟩)
theorem Any_i (m:List (List Rat)) (b:List Rat):Zm ⟨Tryz.prog,[(39,0),(41,2),(43,3),(91,1),(93,4)],[Zfd,Zgf,Zed,Z1b,ZMl,Z9j],[],[Z0e],[],[],[]⟩ [(49,Tryz.f49,.no)] Tryz.f18 (.two .no (.two (.two (.cut ⟨⟨[],[],[]⟩,[(.norm,⟨[0,1],[],[.s 23 (.dat .bool)]⟩)]⟩ .no) .no) (.two .no (.two .no (.two (.two .no (.two (.cut ⟨⟨[],[],[]⟩,[(.norm,⟨[6,7,8],[],[.s 47 (.dat .bool)]⟩)]⟩ .no) .no)) (.two .no (.two (.two .no (.two (.cut ⟨⟨[6,7,11,50,51],[],[.s 52 (.dat (.int .i64)),.l (.sl 11) (.own 43 (.leaf 3))]⟩,[(.exit 0,⟨[11],[],[.l (.sl 11) (.own 43 (.leaf 3))]⟩)]⟩ .no) .no)) .no))))))) [.slice (.slice (.leaf 3)),.slice (.leaf 3)] [.slice (.leaf 3),.int .i64] (m,b)=Ztg m b:=by kernel_rfl
theorem Any_k:Zk Tryz.prog ZYk.1 ZYk.2:=Zp (C:=⟨Tryz.prog,[(39,0),(41,2),(43,3),(91,1),(93,4)],[Zfd,Zgf,Zed,Z1b,ZMl,Z9j],[],[Z0e],[],[],[]⟩) ⟨Znj,ZPn,Zgl,ZCg,Zlv,ZLv,trivial⟩ ⟨Zdm,trivial⟩ trivial trivial (inl:=[(49,Tryz.f49,.no)]) ⟨⟨Tryz.func49,fun _ _=>by kernel_rfl⟩,trivial⟩ (ann:=(.two .no (.two (.two (.cut ⟨⟨[],[],[]⟩,[(.norm,⟨[0,1],[],[.s 23 (.dat .bool)]⟩)]⟩ .no) .no) (.two .no (.two .no (.two (.two .no (.two (.cut ⟨⟨[],[],[]⟩,[(.norm,⟨[6,7,8],[],[.s 47 (.dat .bool)]⟩)]⟩ .no) .no)) (.two .no (.two (.two .no (.two (.cut ⟨⟨[6,7,11,50,51],[],[.s 52 (.dat (.int .i64)),.l (.sl 11) (.own 43 (.leaf 3))]⟩,[(.exit 0,⟨[11],[],[.l (.sl 11) (.own 43 (.leaf 3))]⟩)]⟩ .no) .no)) .no)))))))) Tryz.func18 (fun _ _=>by kernel_rfl) rfl (fun v vals x z ha hz=>(Any_i x.1 x.2).trans hz)
end Go.Eng
set_option maxRecDepth 100000
set_option maxHeartbeats 4000000
namespace Go.Eng
open Go.Proofs Go.RowKit
theorem Zgw (m:List (List (Int×Int))) (v:List (Int×Int)):Zm ⟨Tryz.prog,[(39,0),(41,2),(43,3),(91,1),(93,4)],[ZUk,Zjl,Z8e,Zlf,ZQe,ZRi,Zwj,Z6f,ZIj,Z2g,ZYk],[],[Zkk],[],[],[]⟩ [] Tryz.f3 (.two .no (.two (.two (.cut ⟨⟨[],[],[]⟩,[(.norm,⟨[0,1],[],[.s 42 (.dat .bool)]⟩)]⟩ .no) .no) (.two .no (.two .no (.two .no (.two .no (.two .no (.two .no (.two .no (.two .no (.two (.two (.cut ⟨⟨[],[],[]⟩,[(.norm,⟨[0,1,5,7,21],[],[.s 113 (.dat .bool)]⟩)]⟩ .no) .no) (.two .no (.two (.two .no (.two (.cut ⟨⟨[1,5,7,117,118],[],[.s 23 (.dat (.slice (.leaf 3))),.s 119 (.dat (.int .i64))]⟩,[(.exit 0,⟨[1,5,7],[],[]⟩),(.ret,⟨[],[],[.s 1000 (.dat .bool)]⟩)]⟩ (.two (.two .no (.two .no (.two (.two (.two .no (.two (.cut ⟨⟨[],[],[]⟩,[(.norm,⟨[1,5,7,23,117,118,119],[],[.s 135 (.dat .bool)]⟩)]⟩ .no) .no)) .no) .no))) .no)) .no)) (.two .no (.two .no (.two (.cut ⟨⟨[],[],[]⟩,[(.norm,⟨[],[],[.s 4 (.dat .bool)]⟩)]⟩ .no) .no)))))))))))))))) [.slice (.slice (.pair (.int .i64) (.int .i64))),.slice (.pair (.int .i64) (.int .i64))] [.bool] (m,v)=ZQi m v:=by kernel_rfl
theorem Zkw {w0:World} {v0:Zb} (hv:VIn v0 w0) {c0:List Value} {m:(List (List (Int×Int)))} (p0:Rep.rel (Zw (Zw (Zlb (Zd .i64) (Zd .i64)))) v0 c0 m) {c1:List Value} {v:(List (Int×Int))} (p1:Rep.rel (Zw (Zlb (Zd .i64) (Zd .i64))) v0 c1 v) {z:Bool} (hm:ZQi m v=some z):Ret Tryz.prog 3 #[(Zw (Zw (Zlb (Zd .i64) (Zd .i64)))).val c0,(Zw (Zlb (Zd .i64) (Zd .i64))).val c1] w0 v0 (fun y v'=>∃ r0,y=ZKc.val r0∧ZKc.rel v' r0 z):=(Ztm (C:=⟨Tryz.prog,[(39,0),(41,2),(43,3),(91,1),(93,4)],[ZUk,Zjl,Z8e,Zlf,ZQe,ZRi,Zwj,Z6f,ZIj,Z2g,ZYk],[],[Zkk],[],[],[]⟩) (CfOK.of ⟨fits2_k,Z6s,Zum,Zmn,Zon,Z1w,Rank_k,Z8q,Zss,Zmp,Any_k,trivial⟩ ⟨Zrs,trivial⟩ trivial trivial) (inl:=[]) (Zqc.of trivial) (ann:=(.two .no (.two (.two (.cut ⟨⟨[],[],[]⟩,[(.norm,⟨[0,1],[],[.s 42 (.dat .bool)]⟩)]⟩ .no) .no) (.two .no (.two .no (.two .no (.two .no (.two .no (.two .no (.two .no (.two .no (.two (.two (.cut ⟨⟨[],[],[]⟩,[(.norm,⟨[0,1,5,7,21],[],[.s 113 (.dat .bool)]⟩)]⟩ .no) .no) (.two .no (.two (.two .no (.two (.cut ⟨⟨[1,5,7,117,118],[],[.s 23 (.dat (.slice (.leaf 3))),.s 119 (.dat (.int .i64))]⟩,[(.exit 0,⟨[1,5,7],[],[]⟩),(.ret,⟨[],[],[.s 1000 (.dat .bool)]⟩)]⟩ (.two (.two .no (.two .no (.two (.two (.two .no (.two (.cut ⟨⟨[],[],[]⟩,[(.norm,⟨[1,5,7,23,117,118,119],[],[.s 135 (.dat .bool)]⟩)]⟩ .no) .no)) .no) .no))) .no)) .no)) (.two .no (.two .no (.two (.cut ⟨⟨[],[],[]⟩,[(.norm,⟨[],[],[.s 4 (.dat .bool)]⟩)]⟩ .no) .no))))))))))))))))) (ats:=[.slice (.slice (.pair (.int .i64) (.int .i64))),.slice (.pair (.int .i64) (.int .i64))]) (rts:=[.bool]) (x:=(m,v)) (vals:=[(Zw (Zw (Zlb (Zd .i64) (Zd .i64)))).val c0,(Zw (Zlb (Zd .i64) (Zd .i64))).val c1]) Tryz.func3 rfl ((Zgw m v).trans hm) hv ⟨c0,_,rfl,p0,c1,rfl,p1⟩).mono fun y v' _ h=>h
end Go.Eng
