/- Lemmas towards the statement: the engine of the walks, the functions' models, laws and walks, part 6. Conditions: as each states. -/
import Derived.Shelf.Strings.Builder1
import Derived.Shelf.Strings.Repeat
import Derived.Test.YtcalobhmejkdiaaGreatProg
import Derived.Test.YtcalobhmejkdiaaGreatLfE
set_option linter.all false
set_option maxRecDepth 100000
namespace Go.Eng
open Go.RowKit
def oneR:List Value→Value
 | [x]=>x
 | vs=>.tuple vs.toArray
theorem Zkt {P:Program} {tmps:Array Value} {w:World}:∀ {rs:List ResultVar} {vals:List Value},Ress P tmps w rs vals→(rs.mapM (Zsm tmps)).run P w = .ok vals w
 | [],[],_=>by simp
 | q :: rs,y :: vals,h=>by
  have h1:=ZDl h.1
  have h2:=Zkt (rs:=rs) (vals:=vals) h.2
  simp [List.mapM_cons,h1,h2]
 | [],_ :: _,h=>h.elim
 | _ :: _,[],h=>h.elim
theorem Zfi {P:Program} {fn:Func} {tmps:Array Value} {w:World} {vals:List Value} (h:Ress P tmps w fn.results.toList vals):(results fn tmps).run P w = .ok (oneR vals) w:=by
 have h1:=Zkt h;rw [Zvn];rw [Array.mapM_eq_mapM_toList]
 match vals with
 | []=>simp [h1,oneR]
 | [x]=>simp [h1,oneR]
 | x :: y :: r=>simp [h1,oneR]
theorem oneV_ok {v:Zb} {γ:Nat→Gh} {l:Lo} {U:Nat→Prop} {c:V} {vals:List Value} (h:RR v γ l true c vals) (hk:c.ok U):RV v γ l (Zyf c) (oneR vals)∧(Zyf c).ok U:=by
 cases c with
 | nl=>rw [show vals=[] from h];exact ⟨⟨[],rfl,rfl⟩,trivial⟩
 | cons a b =>
  obtain ⟨cs,xs,rfl,h1,h2⟩:=h
  cases b with
  | nl =>
   rw [show xs=[] from h2];exact ⟨Zac h1 (fun c e=>by subst e;exact h1),hk.1⟩
  | cons a2 b2 =>
   obtain ⟨cs2,xs2,rfl,h3,h4⟩:=h2;exact ⟨⟨_,⟨cs,_,rfl,h1,cs2,xs2,rfl,h3,h4⟩,rfl⟩,hk⟩
  | _=>exact h2.elim
 | _=>exact h.elim
theorem ZXl:∀ {l:List Value} {k t:Nat} {y:Value},l[t]? = some y→look (ZDc k l) (k+t)=some y
 | [],_,_,_,h=>by simp at h
 | x :: l,k,0,y,h=>by
  simp at h;subst h
  exact Zaf rfl
 | x :: l,k,t+1,y,h=>by
  have h1:=ZXl (l:=l) (k:=k+1) (t:=t) (y:=y) (by simpa using h)
  rw [show ZDc k (x :: l)=(k,x) :: ZDc (k+1) l from rfl,Z5h (by omega),show k+(t+1)=k+1+t by omega]
  exact h1
def ZIc (C:Cf) (inl:Inl):Prop:=∀ g p,ZAa inl g=some p→C.P.funcs[g]? = some p.1∧Z6 C.P g
theorem ZKo {C:Cf} (hC:CfOK C) {inl:Inl} (hinl:ZIc C inl) (d:Nat):Zeh C (ZKg C inl d):=by
 induction d with
 | zero=>intro α g ags l n K r h;cases h
 | succ d ih =>
  intro α g ags l n K r h N G w0 v0 a w γ v ℓ vals hr has hk;simp only [ZKg] at h;split at h
  ·rename_i fn ann hg;obtain ⟨hf,hen⟩:=hinl g _ hg;split at h
   ·rename_i c hc hb;have hlen:=Zxq has;have hb:=Nat.le_of_ble_eq_true hb;have hx:=ZXt (N':=fn.ntmps) hr has hk (by rw [hlen];exact hb);refine ⟨hen,calls_of_wp hf hc ?_⟩;refine Zxl hC ih c h ⟨γ,v,ℓ,hx⟩ ⟨fun f' l' n' a' w' hp hn' ho' hr'=>?_,fun i f' l' n' a' w' hp hn' ho' hr'=>(by cases hp),fun c l' n' a' w' hp hn' ho' hr'=>?_⟩
    ·unfold endN at hp;split at hp
     ·rename_i hres;obtain ⟨γ',v',ℓ',hr'⟩:=hr';refine ⟨hr'.st.dfr,_,Zfi (vals:=[]) (by rw [hres];exact trivial),_,.nl,l',n',γ',v',ℓ',rfl,hp,by omega,fun f=>⟨fun _ _ h _=>h,ho'.l.mono (by omega)⟩,⟨⟨hr.st.size,hr.st.dfr,fun t x h=>(by cases h),hr'.st.ext,hr'.st.vst,hr'.st.loc,hr'.st.nd⟩,fun t e he=>(by cases he),hr'.lr,hr'.nd,fun t e he=>(by cases he),hr'.ul,hr'.gh⟩,?_⟩;exact ⟨⟨[],rfl,rfl⟩,trivial⟩
     ·cases hp
    ·obtain ⟨γ',v',ℓ',vals',hr',hc',hk',hres⟩:=hr';exact ⟨hr'.st.dfr,_,Zfi hres,_,c,l',n',γ',v',ℓ',rfl,hp,by omega,fun f=>⟨fun _ _ h _=>h,ho'.mono (by omega)⟩,⟨⟨hr.st.size,hr.st.dfr,fun t x h=>(by cases h),hr'.st.ext,hr'.st.vst,hr'.st.loc,hr'.st.nd⟩,fun t e he=>(by cases he),hr'.lr,hr'.nd,fun t e he=>(by cases he),hr'.ul,hr'.gh⟩,oneV_ok hc' hk'⟩
   ·cases h
  ·cases h
theorem Zdk {v:Zb} {γ:Nat→Gh} {l:Lo} {U:Nat→Prop}:∀ {ts:List T} {vals:List Value} {x:Zga ts},ZJb v ts vals x→RR v γ l true (Zxe ts x) vals∧(Zxe ts x).ok U∧vals.length=ts.length
 | [],_,_,h=>⟨h,trivial,by rw [show _=[] from h];rfl⟩
 | [t],_,x,⟨cs,h1,h2⟩=>⟨⟨cs,[],by rw [h1];exact congrArg (fun z=>[z]) (Zgh (t:=t) (x:=x) (cs:=cs)).symm,h2,rfl⟩,⟨trivial,trivial⟩,by rw [h1];rfl⟩
 | t :: u :: r,_,x,⟨cs,vs,h1,h2,h3⟩=>by
  obtain ⟨k1,k2,k3⟩:=Zdk (γ:=γ) (l:=l) (U:=U) h3
  exact ⟨⟨cs,vs,by rw [h1];exact congrArg (· :: vs) (Zgh (t:=t) (x:=x.1) (cs:=cs)).symm,h2,k1⟩,⟨trivial,k2⟩,by rw [h1];simp [k3]⟩
theorem resR_of {v:Zb}:∀ {ts:List T} {vals:List Value} {z:Zga ts},ZJb v ts vals z→resR v ts (oneR vals) z
 | [],_,_,h=>by rw [show _=[] from h];exact ⟨[],rfl,rfl⟩
 | [t],_,x,⟨cs,h1,h2⟩=>by rw [h1];exact ⟨cs,rfl,h2⟩
 | t :: u :: r,vals,x,h=>by
  obtain ⟨cs,vs,h1,h2,h3⟩:=h
  have hl:1≤vs.length:=by
   cases r with
   | nil=>obtain ⟨cs2,e,_⟩:=h3;rw [e];simp
   | cons u2 r2=>obtain ⟨cs2,vs2,e,_⟩:=h3;rw [e];simp
  have e:oneR vals = .tuple vals.toArray:=by
   subst h1
   cases vs with
   | nil=>simp at hl
   | cons y ys=>rfl
  rw [e];exact ⟨vals,rfl,cs,vs,h1,h2,h3⟩
theorem Zkp {C:Cf} (hC:CfOK C) {inl:Inl} (hinl:ZIc C inl) {f:FuncId} {fn:Func} {ann:Ann} {ats rts:List T} {x:Zga ats} {z:Zga rts} (hf:C.P.funcs[f]? = some fn) (hl:Nat.ble ats.length fn.ntmps=true) (h:Zk C inl fn ann ats rts x=some z)
  {w:World} {v:Zb} {vals:List Value} (hv:VIn v w) (ha:ZJb v ats vals x):Ret C.P f vals.toArray w v fun y v'=>resR v' rts y z:=by
 unfold Zk at h;split at h
 ·rename_i c hc;obtain ⟨h1,h2,h3⟩:=Zdk (γ:=fun _=>.box 0) (l:=[]) (U:=(· < 0)) ha;have hK:vals.length≤fn.ntmps:=by rw [h3];exact Nat.le_of_ble_eq_true hl
  refine ZWb hv hf hc rfl hK fun a hS=>?_;have hr:RelX fn.ntmps (fun _ _=>False) w v (· < 1) (· < 1) (Zec 0 0 (Zxe ats x)) [] a w (fun _=>.box 0) v []:=by
   refine ⟨⟨hS.size,hS.dfr,fun t x h=>(by cases h),hS.ext,hS.vst,hS.loc,hS.nd⟩,fun t e he=>?_,⟨[],trivial,List.Perm.refl _⟩,List.nodup_nil,fun t e he=>?_,fun e he=>(by cases he),fun x y h=>h.elim⟩
   ·obtain ⟨y,q1,q2,q3,q4,q5⟩:=Zed h1 h2 he;have:=hS.fr t y ?_
    ·rw [this];exact q3
    ·have q2:vals[t-0]? = some y:=q2;have:=ZXl (k:=0) (t:=t) (y:=y) (by simpa using q2)
     rwa [Nat.zero_add] at this
   ·obtain ⟨y,q1,q2,q3,q4,q5⟩:=Zed h1 h2 he;exact ⟨V.ok.mono (fun k h=>absurd h (Nat.not_lt_zero k)) q4,by show e.st<1;omega⟩
  refine Zxl hC (ZKo hC hinl 20) c h ⟨_,_,_,hr⟩ ⟨fun f' l' n' a' w' hp hn' ho' hr'=>(by cases hp),fun i f' l' n' a' w' hp hn' ho' hr'=>(by cases hp),fun c l' n' a' w' hp hn' ho' hr'=>?_⟩;obtain ⟨γ',v',ℓ',vals',hr',hc',hk',hres⟩:=hr';have hr2:RelX fn.ntmps (fun _ _=>False) w v (· < n') (· < n'+1) [] l' a' w' γ' v' ℓ':=hr'.mono (fun _ h=>h) fun k h=>(show k<n'+1 by have:k<n':=h;omega);obtain ⟨y,l2,γ2,v2,ℓ2,k1,k2,k3,k4⟩:=Zbj (U:=(· < n')) (X:=(· < n'+1)) (Nat.lt_irrefl n') (Nat.lt_succ_self n') (Zdl hp) hr2 hk';have k1:some y=some z:=k1
  cases k1
  exact ⟨k2.st.dfr,_,Zfi hres,_,v2,rfl,k2.st.ext.ext,k2.st.vst.ext,resR_of (k4 _ hc')⟩
 ·cases h
def CL (P:Program):List (FuncId×Con)→Prop
 | []=>True
 | p :: r=>Zj P p.1 p.2∧CL P r
def OL (P:Program):List (FuncId×ConO)→Prop
 | []=>True
 | p :: r=>ZFg P p.1 p.2∧OL P r
def IL (P:Program):List (FuncId×ConI)→Prop
 | []=>True
 | p :: r=>Z1l P p.1 p.2∧IL P r
def ML (P:Program):List ((TypeId×String)×FuncId)→Prop
 | []=>True
 | p :: r=>(∀ y w,(method (P.types.size+Made.depth) p.1.1 y p.1.2).run P w = .ok (p.2,y) w)∧ML P r
def NL (P:Program):Inl→Prop
 | []=>True
 | p :: r=>(P.funcs[p.1]? = some p.2.1∧Z6 P p.1)∧NL P r
theorem CL_ok {P:Program}:∀ {l:List (FuncId×Con)},CL P l→∀ f c,ZAa l f=some c→Zj P f c
 | [],_,_,_,h=>by cases h
 | p :: r,hl,f,c,h=>by
  simp only [ZAa] at h
  split at h
  ·rename_i hb;cases h;rw [← Nat.eq_of_beq_eq_true hb];exact hl.1
  ·exact CL_ok hl.2 f c h
theorem OL_ok {P:Program}:∀ {l:List (FuncId×ConO)},OL P l→∀ f c,ZAa l f=some c→ZFg P f c
 | [],_,_,_,h=>by cases h
 | p :: r,hl,f,c,h=>by
  simp only [ZAa] at h
  split at h
  ·rename_i hb;cases h;rw [← Nat.eq_of_beq_eq_true hb];exact hl.1
  ·exact OL_ok hl.2 f c h
theorem IL_ok {P:Program}:∀ {l:List (FuncId×ConI)},IL P l→∀ f c,ZAa l f=some c→Z1l P f c
 | [],_,_,_,h=>by cases h
 | p :: r,hl,f,c,h=>by
  simp only [ZAa] at h
  split at h
  ·rename_i hb;cases h;rw [← Nat.eq_of_beq_eq_true hb];exact hl.1
  ·exact IL_ok hl.2 f c h
theorem ML_ok {P:Program}:∀ {l:List ((TypeId×String)×FuncId)},ML P l→∀ t s f,lkM l t s=some f→∀ y w,(method (P.types.size+Made.depth) t y s).run P w = .ok (f,y) w
 | [],_,_,_,_,h=>by cases h
 | p :: r,hl,t,s,f,h=>by
  simp only [lkM] at h
  split at h
  ·rename_i hb hs
   cases h
   rw [← Nat.eq_of_beq_eq_true hb,← eq_of_beq hs];exact hl.1
  ·exact ML_ok hl.2 t s f h
def QL (P:Program):List (FuncId×ConM)→Prop
 | []=>True
 | p :: r=>Z4h P p.1 p.2∧QL P r
theorem QL_ok {P:Program}:∀ {l:List (FuncId×ConM)},QL P l→∀ f c,ZAa l f=some c→Z4h P f c
 | [],_,_,_,h=>by cases h
 | p :: r,hl,f,c,h=>by
  simp only [ZAa] at h
  split at h
  ·rename_i hb;cases h;rw [← Nat.eq_of_beq_eq_true hb];exact hl.1
  ·exact QL_ok hl.2 f c h
theorem CfOK.of {C:Cf} (hc:CL C.P C.cons) (ho:OL C.P C.owns) (hi:IL C.P C.ins) (hm:ML C.P C.meths) (hq:QL C.P C.omats:=by exact trivial):CfOK C:=⟨CL_ok hc,OL_ok ho,IL_ok hi,ML_ok hm,QL_ok hq⟩
theorem ZIc.of {C:Cf}:∀ {l:Inl},NL C.P l→ZIc C l
 | [],_,_,_,h=>by cases h
 | p :: r,hl,g,q,h=>by
  simp only [ZAa] at h
  split at h
  ·rename_i hb;cases h;rw [← Nat.eq_of_beq_eq_true hb];exact hl.1
  ·exact ZIc.of (l:=r) hl.2 g q h
theorem Zn {C:Cf} (hc:CL C.P C.cons) (ho:OL C.P C.owns) (hi:IL C.P C.ins) (hm:ML C.P C.meths) {inl:Inl} (hn:NL C.P inl) {f:FuncId} {fn:Func} {ann:Ann} {con:Con} (hf:C.P.funcs[f]? = some fn) (hen:Z6 C.P f) (hl:Nat.ble con.args.length fn.ntmps=true)
  (h:∀ v vals x z,ZJb v con.args vals x→con.F x=some z→Zk C inl fn ann con.args con.res x=some z) (hq:QL C.P C.omats:=by exact trivial):Zj C.P f con :=
 fun _ v vals x z hv ha hz=>.inl ⟨hen,Zkp (CfOK.of hc ho hi hm hq) (ZIc.of hn) hf hl (h v vals x z ha hz) hv ha⟩
theorem Zil {C:Cf} (hc:CL C.P C.cons) (ho:OL C.P C.owns) (hi:IL C.P C.ins) (hm:ML C.P C.meths) {inl:Inl} (hn:NL C.P inl) {f:FuncId} {fn:Func} {ann:Ann} {ats rts:List T} {con:Con} (gA:Zga con.args→Zga ats) (gR:Zga con.res→Zga rts) (hA:∀ v vals x,ZJb v con.args vals x→ZJb v ats vals (gA x)) (hR:∀ v y z,resR v rts y (gR z)→resR v con.res y z)
  (hf:C.P.funcs[f]? = some fn) (hen:Z6 C.P f) (hl:Nat.ble ats.length fn.ntmps=true) (h:∀ v vals x z,ZJb v con.args vals x→con.F x=some z→Zk C inl fn ann ats rts (gA x)=some (gR z)) (hq:QL C.P C.omats:=by exact trivial):Zj C.P f con :=
 fun _ v vals x z hv ha hz=>.inl ⟨hen,(Zkp (CfOK.of hc ho hi hm hq) (ZIc.of hn) hf hl (h v vals x z ha hz) hv (hA v vals x ha)).mono fun y v' _ hy=>hR v' y z hy⟩
end Go.Eng
set_option maxRecDepth 100000
set_option maxHeartbeats 4000000
namespace Go.Eng
open Go.Proofs Go.RowKit
noncomputable def Zkf:FuncId×Con:=(108,⟨[.slice (.int .u64)],[.leaf 0],fun p=>ZTa p⟩)
theorem cut_i (a:(List Int)):Zk ⟨Tryz.prog,[],[],[],[],[],[],[]⟩ [] Tryz.f108 (.two .no (.two (.cut ⟨⟨[],[],[]⟩,[(.norm,⟨[],[],[.s 0 (.dat (.slice (.int .u64)))]⟩)]⟩ (.two (.cut ⟨⟨[],[],[.s 0 (.dat (.slice (.int .u64)))]⟩,[(.exit 0,⟨[],[],[.s 0 (.dat (.slice (.int .u64)))]⟩)]⟩ (.two (.two (.two (.cut ⟨⟨[],[],[]⟩,[(.norm,⟨[0],[],[.s 14 (.dat .bool)]⟩)]⟩ .no) .no) .no) .no)) .no)) .no)) [.slice (.int .u64)] [.slice (.int .u64)] (a)=Zhi a:=by kernel_rfl
theorem cut_k:Zj Tryz.prog Zkf.1 Zkf.2:=Zil (C:=⟨Tryz.prog,[],[],[],[],[],[],[]⟩) trivial trivial trivial trivial (inl:=[]) trivial (ann:=.two .no (.two (.cut ⟨⟨[],[],[]⟩,[(.norm,⟨[],[],[.s 0 (.dat (.slice (.int .u64)))]⟩)]⟩ (.two (.cut ⟨⟨[],[],[.s 0 (.dat (.slice (.int .u64)))]⟩,[(.exit 0,⟨[],[],[.s 0 (.dat (.slice (.int .u64)))]⟩)]⟩ (.two (.two (.two (.cut ⟨⟨[],[],[]⟩,[(.norm,⟨[0],[],[.s 14 (.dat .bool)]⟩)]⟩ .no) .no) .no) .no)) .no)) .no)) (ats:=[.slice (.int .u64)]) (rts:=[.slice (.int .u64)]) (fun x=>(x)) (fun z=>(Zc 18446744073709551616 z)) (fun _ _ _ h=>h) (fun _ _ _ h=>h) Tryz.func108 (fun _ _=>by kernel_rfl) rfl fun v vals x z ha hz=>by obtain ⟨c0,e0,p0⟩:=ha;exact (cut_i x).trans (by cases hz;exact (ZRq (ZPi p0).1 (ZPi p0).2))
end Go.Eng
set_option maxRecDepth 100000
set_option maxHeartbeats 4000000
namespace Go.Eng
open Go.Proofs Go.RowKit
noncomputable def Z3e:FuncId×Con:=(99,⟨[.int .u64],[.leaf 0],fun p=>Zxc p⟩)
theorem word_i (n:Int):Zk ⟨Tryz.prog,[(39,0)],[Zkf],[],[],[],[],[]⟩ [] Tryz.f99 .no [.int .u64] [.leaf 0] (n)=Zzi n:=by kernel_rfl
theorem Zvp:Zj Tryz.prog Z3e.1 Z3e.2:=Zn (C:=⟨Tryz.prog,[(39,0)],[Zkf],[],[],[],[],[]⟩) ⟨cut_k,trivial⟩ trivial trivial trivial (inl:=[]) trivial (ann:=.no) Tryz.func99 (fun _ _=>by kernel_rfl) rfl fun v vals x z ha hz=>(word_i x).trans (ZRr hz)
end Go.Eng
set_option maxRecDepth 100000
set_option maxHeartbeats 4000000
namespace Go.Eng
open Go.Proofs Go.RowKit
noncomputable def of_q:FuncId×Con:=(134,⟨[.int .i64],[.leaf 2],fun p=>ofF p⟩)
theorem of_i (n:Int):Zk ⟨Tryz.prog,[(39,0),(41,2),(43,3)],[Z3e],[],[],[],[],[]⟩ [] Tryz.f134 .no [.int .i64] [.leaf 2] (n)=of_m n:=by kernel_rfl
theorem of_k:Zj Tryz.prog of_q.1 of_q.2:=Zn (C:=⟨Tryz.prog,[(39,0),(41,2),(43,3)],[Z3e],[],[],[],[],[]⟩) ⟨Zvp,trivial⟩ trivial trivial trivial (inl:=[]) trivial (ann:=.no) Tryz.func134 (fun _ _=>by kernel_rfl) rfl fun v vals x z ha hz=>by obtain ⟨c0,e0,p0⟩:=ha;exact (of_i x).trans (ofF_eq p0.2 hz)
end Go.Eng
set_option maxRecDepth 100000
set_option maxHeartbeats 4000000
namespace Go.Eng
open Go.Proofs Go.RowKit
noncomputable def ZCh:FuncId×Con:=(88,⟨[.int .i64],[.leaf 3],fun p=>ZGh p⟩)
theorem qint_i (n:Int):Zk ⟨Tryz.prog,[(39,0),(41,2),(43,3)],[of_q],[],[],[],[],[]⟩ [] Tryz.f88 .no [.int .i64] [.leaf 3] (n)=Z3m n:=by kernel_rfl
theorem Zsq:Zj Tryz.prog ZCh.1 ZCh.2:=Zn (C:=⟨Tryz.prog,[(39,0),(41,2),(43,3)],[of_q],[],[],[],[],[]⟩) ⟨of_k,trivial⟩ trivial trivial trivial (inl:=[]) trivial (ann:=.no) Tryz.func88 (fun _ _=>by kernel_rfl) rfl fun v vals x z ha hz=>(qint_i x).trans (ZJw hz)
end Go.Eng
namespace Go.Eng
open Go.RowKit
theorem Zp {α:Type _} {a b:α} (h:some a=some b):a=b:=Option.some.inj h
theorem ZM (b:Bool):b=true∨b=false:=(Bool.eq_false_or_eq_true b)
theorem leT {a b c:Zb} (h:a.le b) (k:b.le c):a.le c:=Zb.le_trans h k
theorem leR (v:Zb):v.le v:=Zb.le_refl v
theorem bO {α β:Type _} {x:Option α} {f:α→Option β} {z:β} {G:Prop} (h:bnd x f=some z) (k:∀ y,x=some y→f y=some z→G):G:=by obtain ⟨y,e,h⟩:=ZG h;exact k y e h
theorem Zv {P:Program} {Q:Exit→Act→World→Prop} {a:Act} {w:World} {id:Nat} {l:List Oper} (h:wpList P l.toArray Q l a w):(Code.region id l.toArray false).wp P Q a w:=wp_region_lit h
theorem Zm {P:Program} {Q:Exit→Act→World→Prop} {a:Act} {w:World} {x y:Code} (h:∀ K:Act→World→Prop,(∀ a w,y.wp P Q a w→K a w)→x.wp P (Exit.then K Q) a w):(Code.seq x y).wp P Q a w:=wp_seq_k h
theorem Zda {α:Type} {A:Rep α} {v v':Zb} {cs:List Value} {x:α} (hv:v.le v') (h:A.rel v cs x):A.rel v' cs x:=A.mono hv h
theorem Rflat {α:Type} (A:Rep α) {v:Zb} {cs:List Value} {x:α} (h:A.rel v cs x):cs.all plain=true:=A.flat h
theorem Atm {v v':Zb} {b off:Nat} {cs:List Value} (h:v.le v') (k:At v b off cs):At v' b off cs:=At.mono h k
end Go.Eng
namespace Go.Eng
open Go.Proofs Go.RowKit
theorem ZMq:Z8i Tryz.prog 208 20 1:=⟨5,fun _=>by kernel_rfl,fun _=>by kernel_rfl⟩
theorem ZXs:Zyj Tryz.prog 148 5 .u64 .u8:=fun _ _=>by kernel_rfl
theorem Zow:Zyj Tryz.prog 3 187 .i64 .u64:=fun _ _=>by kernel_rfl
theorem k_cv5_3:Zyj Tryz.prog 5 3 .u8 .i64:=fun _ _=>by kernel_rfl
theorem Zas:Elem Tryz.prog 168 9 1 16 (Value.string (Zy [])):=⟨Tryz.underlying168,by kernel_rfl,rfl,by decide⟩
theorem ZPe:Elem Tryz.prog 39 148 1 8 (Value.int IntKind.u64 0):=⟨Tryz.underlying39,by kernel_rfl,rfl,by decide⟩
theorem ZLo:Z6 Tryz.prog 106:=fun _ _=>by kernel_rfl
theorem Zuf:Z6 Tryz.prog 108:=fun _ _=>by kernel_rfl
theorem ZFs:Z6 Tryz.prog 127:=fun _ _=>by kernel_rfl
theorem k_en128:Z6 Tryz.prog 128:=fun _ _=>by kernel_rfl
theorem k_en129:Z6 Tryz.prog 129:=fun _ _=>by kernel_rfl
theorem k_en130:Z6 Tryz.prog 130:=fun _ _=>by kernel_rfl
theorem k_en131:Z6 Tryz.prog 131:=fun _ _=>by kernel_rfl
theorem Znr:Z6 Tryz.prog 142:=fun _ _=>by kernel_rfl
theorem Z2s:Z6 Tryz.prog 143:=fun _ _=>by kernel_rfl
theorem k_en144:Z6 Tryz.prog 144:=fun _ _=>by kernel_rfl
theorem k_en145:Z6 Tryz.prog 145:=fun _ _=>by kernel_rfl
theorem ZSs:Z6 Tryz.prog 166:=fun _ _=>by kernel_rfl
theorem k_en175:Z6 Tryz.prog 175:=fun _ _=>by kernel_rfl
theorem k_en176:Z6 Tryz.prog 176:=fun _ _=>by kernel_rfl
theorem Zmq:Z6 Tryz.prog 60:=fun _ _=>by kernel_rfl
theorem k_en99:Z6 Tryz.prog 99:=fun _ _=>by kernel_rfl
theorem Z3r:Z4e Tryz.prog 107 add64Entry:=⟨_,Tryz.func107,by kernel_rfl,by kernel_rfl,by kernel_rfl,by kernel_rfl⟩
theorem Zjy:Z4e Tryz.prog 146 Zjl:=⟨_,Tryz.func146,by kernel_rfl,by kernel_rfl,by kernel_rfl,by kernel_rfl⟩
theorem ZTf:Tryz.prog.follows .mixedOrders=true:=by kernel_rfl
theorem Zbn:Zod Tryz.prog 168 9 1:=⟨fun _=>by kernel_rfl,fun _=>by kernel_rfl⟩
theorem ZC:Zod Tryz.prog 39 148 1:=⟨fun _=>by kernel_rfl,fun _=>by kernel_rfl⟩
theorem Z8:Sized Tryz.prog 148 1 false:=⟨fun _=>by kernel_rfl,fun _=>by kernel_rfl⟩
theorem k_sz5:Sized Tryz.prog 5 1 false:=⟨fun _=>by kernel_rfl,fun _=>by kernel_rfl⟩
theorem k_sz9:Sized Tryz.prog 9 1 false:=⟨fun _=>by kernel_rfl,fun _=>by kernel_rfl⟩
theorem k_zv176:∀ w,(zeroValue 176).run Tryz.prog w = .ok (Value.agg #[Value.pointer none,Value.slice none 0 0]) w:=fun _=>by kernel_rfl
theorem k_zv208:∀ w,(zeroValue 208).run Tryz.prog w = .ok (Value.agg #[Value.int IntKind.u8 0,Value.int IntKind.u8 0,Value.int IntKind.u8 0,Value.int IntKind.u8 0,Value.int IntKind.u8 0,Value.int IntKind.u8 0,Value.int IntKind.u8 0,Value.int IntKind.u8 0,Value.int IntKind.u8 0,Value.int IntKind.u8 0,Value.int IntKind.u8 0,Value.int IntKind.u8 0,Value.int IntKind.u8 0,Value.int IntKind.u8 0,Value.int IntKind.u8 0,Value.int IntKind.u8 0,Value.int IntKind.u8 0,Value.int IntKind.u8 0,Value.int IntKind.u8 0,Value.int IntKind.u8 0]) w:=fun _=>by kernel_rfl
theorem cut_w {e:World} {d:Zb} (hv:VIn d e) {E:List Value} {a:(List Int)} (F:Rep.rel (Zw (Zd .u64)) d E a) {z:(List Int)} (H:Zhi a=some z):Ret Tryz.prog 108 #[(Zw (Zd .u64)).val E] e d (fun y v'=>∃ G,y=(Zw (Zd .u64)).val G∧(Zw (Zd .u64)).rel v' G z):=by
 obtain ⟨M,N,O,rfl⟩:=Zun F;refine ZWb (K:=21) (args:=[.slice M N O]) hv Tryz.func108 rfl rfl zl fun f S=>?_;unfold Zhi at H;refine sr ?_;have S:=S.nilLoc 148 1;refine ov S rfl (Z6c S (y:=.slice (mkA none) 0 0) rfl) fun f S=>oe (Zm fun _ P=>?_);obtain ⟨Q,R,T⟩:=ZG H;refine ZBa (fun f w=>∃ B j k l m,B=Q∧Zb.le d m∧St 21 e d [(0,.slice j k l)] [] m f w∧Rep.rel (Zw (Zd .u64)) m [.slice j k l] B) (fun _ U=>?_) ?_
 ·have H:=R;refine wp_block ?_;obtain ⟨am,V,W⟩:=ZG H;have S:=S.reorder (ℓ':=[]) [] rfl (by decide);refine ZTb V (fun X f w=>∃ n o q s g,n=X∧Zb.le d g∧St 21 e d [(0,.slice o q s)] [] g f w∧Rep.rel (Zw (Zd .u64)) g [.slice o q s] n) ⟨_,_,_,_,_,rfl,(leR _),(S.fr' rfl),F⟩ ?_;rintro _ f w st ⟨n,o,q,s,g,hq,I,S,c⟩ H an Y Z;subst hq;refine Zm fun _ aa=>Zm fun _ ab=>?_;obtain ⟨ac,ad,ae⟩:=ZG H;refine ZBa (fun f w=>∃ u C,u=ac∧Zb.le g C∧St 21 e d [(0,.slice o q s),(14,.bool u)] [] C f w) (fun _ J=>?_) ?_
  ·have H:=ad;refine Zv (mv S rfl fun f S=>ov S rfl (Zka S (ZK c) rfl rfl ZC) fun f S=>ov S rfl (Zg S rfl rfl Z5c) fun f S=>mv S rfl fun f S=>?_);rcases ZM (decide ((0:Int)<(n.length:Int))) with h | h
   ·have H:=ZL H h;have S:=S.bool (t:=6) rfl h;refine bO H fun ao af H=>bO H fun ap D H=>opy S rfl rfl rfl rfl (ZA S rfl) fun f S=>opy S rfl rfl rfl rfl (ZA S rfl) fun f S=>opy S rfl rfl rfl rfl (Zka S (ZK c) rfl rfl ZC) fun f S=>opy S rfl rfl rfl rfl (Zg S rfl rfl (ZIa af)) fun f S=>?_;obtain ⟨_,aq,ar,au,rfl,ag,ah⟩:=Zqb c (Zi D).2.1;obtain ⟨rfl,av⟩:=ah;refine opy S rfl rfl rfl rfl (ZQ S rfl rfl ZC (Zi D).1 (ltI (ZK c) (Zi D).2.2.1)) fun f S=>opy S rfl rfl rfl rfl (Zoa S rfl Z8 (S.view ag)) fun f S=>opy S rfl rfl rfl rfl (Zg S rfl rfl ZJe) fun f S=>ov S rfl (ZMb S (b:=true) rfl rfl) fun f S=>Zs ?_;obtain rfl:=Zp H;refine Zh (J _ _ ⟨_,_,rfl,(leR _),(S.fr' rfl)⟩)
   have H:=ZN H h;have S:=S.bool (t:=6) rfl h;refine opn S rfl rfl rfl rfl fun f S=>opn S rfl rfl rfl rfl fun f S=>opn S rfl rfl rfl rfl fun f S=>opn S rfl rfl rfl rfl fun f S=>opn S rfl rfl rfl rfl fun f S=>opn S rfl rfl rfl rfl fun f S=>opn S rfl rfl rfl rfl fun f S=>ov S rfl (ZMb S (b:=false) rfl rfl) fun f S=>Zs ?_;obtain rfl:=Zp H;refine Zh (J _ _ ⟨_,_,rfl,(leR _),(S.fr' rfl)⟩)
  rintro f w ⟨u,C,hq,v,S⟩;subst hq;have H:=ae;refine Zh (ab _ _ ?_);rcases ZM (u) with i | i
  ·have H:=ZL H i;refine ZX S rfl i (wp_skip (Zh (aa _ _ (wp_block (bO H fun ai aj H=>bO H fun aw x H=>Zv (mv S rfl fun f S=>mv S rfl fun f S=>?_))))));have c:=Zda v c;refine ov S rfl (Zka S (ZK c) rfl rfl ZC) fun f S=>ov S rfl (Zg S rfl rfl (ZIa aj)) fun f S=>?_;obtain ⟨ax,ay,ak,L⟩:=Zkq S (A:=(Zd .u64)) (p:=(0:Int)) (r:=ai) ZC c (Zfd x).1 (Zfd x).2.1 (Zfd x).2.2.1;rw [← (Zfd x).2.2.2.1] at L;refine ov S rfl (ak rfl (.inl ⟨rfl,rfl⟩) (.inr ⟨_,_,rfl,rfl⟩)) fun f S=>mw S rfl fun f S=>Zs (ZEb ?_);obtain rfl:=Zp H;refine Y _ rfl _ _ ⟨_,_,_,_,_,rfl,(leT I v),(S.fr' rfl),L⟩
  have H:=ZN H i;refine ZR S rfl i (wp_exit (Z2 ?_));obtain rfl:=Zp H;have hq:=Z _ rfl;subst hq;have H:=W;refine Z2 (Zjb ?_);obtain rfl:=Zp H;have c:=Zda v c;refine Zh (U _ _ ⟨_,_,_,_,_,rfl,(leT (leT (leR _) I) v),(S.fr' rfl),c⟩)
 rintro f w ⟨B,j,k,l,m,hq,az,S,al⟩;subst hq;have H:=T;refine Zh (P _ _ (sr (mv S rfl fun f S=>mw S rfl fun f S=>oe (wp_ret ?_))));obtain rfl:=Zp H;refine ZMa S (ZVa rfl (ZW S rfl)) ⟨[.slice j k l],rfl,al⟩
theorem ZBf {d:World} {b:Zb} (hv:VIn b d) {e:List Value} {a:(List Int)} (c:Rep.rel (Zw (Zd .u64)) b e a) {z:Nat} (hm:ZTa a=some z) :
  Ret Tryz.prog 108 #[(Zw (Zd .u64)).val e] d b (fun y v'=>∃ f,y=Zx.val f∧Zx.rel v' f z) :=
 by cases hm;exact cut_w hv c (ZRq (ZPi c).1 (ZPi c).2)
theorem len64_w {b:World} {a:Zb} (hv:VIn a b) {q:List Value} {x:Int} (J:Rep.rel (Zd .u64) a q x) {z:Int} (H:Zmj x=some z):Ret Tryz.prog 175 #[(Zd .u64).val q] b a (fun y v'=>∃ r,y=(Zd .i64).val r∧(Zd .i64).rel v' r z):=by
 obtain ⟨rfl,s⟩:=J;refine ZWb (K:=25) (args:=[.int .u64 x]) hv Tryz.func175 rfl rfl zl fun f S=>?_;unfold Zmj at H;refine sr (mw S rfl fun f S=>oe (Zm fun _ L=>sr (mv S rfl fun f S=>ov S rfl (Zg S rfl rfl Zzc) fun f S=>oe ?_)));obtain ⟨M,N,O⟩:=ZG H;refine ZBa (fun f w=>∃ c i j,(c,i)=M∧Zb.le a j∧St 25 b a [(0,.int .u64 c),(2,.int .i64 i)] [] j f w∧inR .u64 c∧inR .i64 i) (fun _ t=>?_) ?_
 ·have H:=N;rcases ZM (decide ((4294967296:Int)≤x)) with d | d
  ·have H:=ZL H d;refine ZX S rfl d (Zm fun _ P=>bO H fun ag u H=>Zv (mv S rfl fun f S=>ov S rfl (Zg S rfl rfl (ZZb u)) fun f S=>mw S rfl fun f S=>Zs (Zh (P _ _ (Zv (mw S rfl fun f S=>Zs ?_))))));obtain rfl:=Zp H;refine Zh (t _ _ ⟨_,_,_,rfl,(leR _),(S.fr' rfl),(ZDg s u),(by decide)⟩)
  have H:=ZN H d;refine ZR S rfl d (wp_skip ?_);obtain rfl:=Zp H;refine Zh (t _ _ ⟨_,_,_,rfl,(leR _),(S.fr' rfl),s,(by decide)⟩)
 rintro f w ⟨c,i,j,hq,ah,S,v,Q⟩;subst hq;have H:=O;refine Zh (L _ _ (Zm fun _ R=>sr (mv S rfl fun f S=>ov S rfl (Zg S rfl rfl Zzc) fun f S=>oe ?_)));obtain ⟨T,U,V⟩:=ZG H;refine ZBa (fun f w=>∃ e k m,(e,k)=T∧Zb.le j m∧St 25 b a [(0,.int .u64 e),(2,.int .i64 k)] [] m f w∧inR .u64 e∧inR .i64 k) (fun _ A=>?_) ?_
 ·have H:=U;rcases ZM (decide ((65536:Int)≤c)) with g | g
  ·have H:=ZL H g;refine ZX S rfl g (Zm fun _ W=>bO H fun ai B H=>Zv (mv S rfl fun f S=>ov S rfl (Zg S rfl rfl (ZZb B)) fun f S=>mw S rfl fun f S=>Zs (Zh (W _ _ (bO H fun aj C H=>Zv (mv S rfl fun f S=>ov S rfl (Zg S rfl rfl (ZZa C)) fun f S=>mw S rfl fun f S=>?_))))));refine Zs ?_;obtain rfl:=Zp H;refine Zh (A _ _ ⟨_,_,_,rfl,(leR _),(S.fr' rfl),(ZDg v B),(ZCa C).2⟩)
  have H:=ZN H g;refine ZR S rfl g (wp_skip ?_);obtain rfl:=Zp H;refine Zh (A _ _ ⟨_,_,_,rfl,(leR _),(S.fr' rfl),v,Q⟩)
 rintro f w ⟨e,k,m,hq,ak,S,D,X⟩;subst hq;have H:=V;refine Zh (R _ _ (Zm fun _ Y=>sr (mv S rfl fun f S=>ov S rfl (Zg S rfl rfl Zzc) fun f S=>oe ?_)));obtain ⟨Z,aa,ab⟩:=ZG H;refine ZBa (fun f w=>∃ n o p,(n,o)=Z∧Zb.le m p∧St 25 b a [(0,.int .u64 n),(2,.int .i64 o)] [] p f w∧inR .u64 n∧inR .i64 o) (fun _ E=>?_) ?_
 ·have H:=aa;rcases ZM (decide ((256:Int)≤e)) with h | h
  ·have H:=ZL H h;refine ZX S rfl h (Zm fun _ ac=>bO H fun al F H=>Zv (mv S rfl fun f S=>ov S rfl (Zg S rfl rfl (ZZb F)) fun f S=>mw S rfl fun f S=>Zs (Zh (ac _ _ (bO H fun am G H=>Zv (mv S rfl fun f S=>ov S rfl (Zg S rfl rfl (ZZa G)) fun f S=>mw S rfl fun f S=>?_))))));refine Zs ?_;obtain rfl:=Zp H;refine Zh (E _ _ ⟨_,_,_,rfl,(leR _),(S.fr' rfl),(ZDg D F),(ZCa G).2⟩)
  have H:=ZN H h;refine ZR S rfl h (wp_skip ?_);obtain rfl:=Zp H;refine Zh (E _ _ ⟨_,_,_,rfl,(leR _),(S.fr' rfl),D,X⟩)
 rintro f w ⟨n,o,p,hq,an,S,ao,ap⟩;subst hq;have H:=ab;refine Zh (Y _ _ (Zm fun _ ad=>bO H fun aq ae H=>bO H fun af I H=>Zv (mv S rfl fun f S=>mv S rfl fun f S=>ov S rfl (Zae S rfl (ZXs _)) fun f S=>ov S rfl (Zct S (l:=([0,1,2,2,3,3,3,3,4,4,4,4,4,4,4,4,5,5,5,5,5,5,5,5,5,5,5,5,5,5,5,5,6,6,6,6,6,6,6,6,6,6,6,6,6,6,6,6,6,6,6,6,6,6,6,6,6,6,6,6,6,6,6,6,7,7,7,7,7,7,7,7,7,7,7,7,7,7,7,7,7,7,7,7,7,7,7,7,7,7,7,7,7,7,7,7,7,7,7,7,7,7,7,7,7,7,7,7,7,7,7,7,7,7,7,7,7,7,7,7,7,7,7,7,7,7,7,7,8,8,8,8,8,8,8,8,8,8,8,8,8,8,8,8,8,8,8,8,8,8,8,8,8,8,8,8,8,8,8,8,8,8,8,8,8,8,8,8,8,8,8,8,8,8,8,8,8,8,8,8,8,8,8,8,8,8,8,8,8,8,8,8,8,8,8,8,8,8,8,8,8,8,8,8,8,8,8,8,8,8,8,8,8,8,8,8,8,8,8,8,8,8,8,8,8,8,8,8,8,8,8,8,8,8,8,8,8,8,8,8,8,8,8,8,8,8,8,8,8,8,8,8,8,8,8,8]:List UInt8)) (by kernel_rfl) rfl Tryz.underlying9 ae) fun f S=>ov S rfl (Zae S rfl (k_cv5_3 _)) fun f S=>ov S rfl (Zg S rfl rfl (ZZa I)) fun f S=>mw S rfl fun f S=>Zs (Zh (ad _ _ ?_)))));refine wp_ret ?_;obtain rfl:=Zp H;refine ZMa S (ZVa rfl (ZW S rfl)) ⟨[.int .i64 af],rfl,(ZD (ZCa I).2)⟩
theorem len64_c {b:World} {a:Zb} (hv:VIn a b) {c:List Value} {x:Int} (e:Rep.rel (Zd .u64) a c x) {z:Int} (hm:ZQi x=some z) :
  Ret Tryz.prog 175 #[(Zd .u64).val c] b a (fun y v'=>∃ d,y=(Zd .i64).val d∧(Zd .i64).rel v' d z) :=
 len64_w hv e (ZTu hm)
theorem lz64_w {b:World} {a:Zb} (hv:VIn a b) {c:List Value} {x:Int} (g:Rep.rel (Zd .u64) a c x) {z:Int} (H:Z6j x=some z):Ret Tryz.prog 142 #[(Zd .u64).val c] b a (fun y v'=>∃ d,y=(Zd .i64).val d∧(Zd .i64).rel v' d z):=by
 obtain ⟨rfl,h⟩:=g;refine ZWb (K:=6) (args:=[.int .u64 x]) hv Tryz.func142 rfl rfl zl fun f S=>?_;unfold Z6j at H;refine sr (mw S rfl fun f S=>oe (Zm fun _ i=>bO H fun m j H=>bO H fun k e H=>Zv (mv S rfl fun f S=>opc S rfl (Zaa S [.int .u64 x] k_en175 rfl rfl) (len64_c S.vin (show Rep.rel (Zd .u64) _ [.int .u64 x] x from (ZD h)) j) ?_)));rintro _ n f w o ⟨p,rfl,l⟩ S;obtain ⟨rfl,q⟩:=l;refine ov S rfl (Zg S rfl rfl (ZIa e)) fun f S=>mw S rfl fun f S=>Zs (Zh (i _ _ (wp_ret ?_)));obtain rfl:=Zp H;refine ZMa S (ZVa rfl (ZW S rfl)) ⟨[.int .i64 k],rfl,(ZD (ZCa e).2)⟩
theorem ZMs {b:World} {a:Zb} (hv:VIn a b) {c:List Value} {x:Int} (e:Rep.rel (Zd .u64) a c x) {z:Int} (hm:ZMe x=some z) :
  Ret Tryz.prog 142 #[(Zd .u64).val c] b a (fun y v'=>∃ d,y=(Zd .i64).val d∧(Zd .i64).rel v' d z) :=
 lz64_w hv e (ZGt hm)
theorem div64_w {e:World} {c:Zb} (hv:VIn c e) {X:List Value} {hi:Int} (p0:Rep.rel (Zd .u64) c X hi) {Y:List Value} {lo:Int} (p1:Rep.rel (Zd .u64) c Y lo) {Z:List Value} {y:Int} (p2:Rep.rel (Zd .u64) c Z y) {z:Int×Int} (H:ZDj hi lo y=some z):Ret Tryz.prog 166 #[(Zd .u64).val X,(Zd .u64).val Y,(Zd .u64).val Z] e c (fun y v'=>∃ r0 M,y = .tuple #[(Zd .u64).val r0,(Zd .u64).val M]∧(Zd .u64).rel v' r0 z.1∧(Zd .u64).rel v' M z.2):=by
 obtain ⟨rfl,M⟩:=p0;obtain ⟨rfl,r2⟩:=p1;obtain ⟨rfl,r3⟩:=p2;refine ZWb (K:=135) (args:=[.int .u64 hi,.int .u64 lo,.int .u64 y]) hv Tryz.func166 rfl rfl zl fun f S=>?_;unfold ZDj at H;refine sr (mw S rfl fun f S=>mw S rfl fun f S=>oe (Zm fun _ an=>sr (mv S rfl fun f S=>ov S rfl (Zg S rfl rfl ZJe) fun f S=>oe ?_)));rcases ZM (y==(0:Int)) with q | q
 ·have H:=ZL H q;refine ZX S rfl q ?_
  cases H
 have H:=ZN H q;refine ZR S rfl q (wp_skip (Zh (an _ _ (Zm fun _ ao=>sr (mv S rfl fun f S=>mv S rfl fun f S=>ov S rfl (Zg S rfl rfl Ztn) fun f S=>oe ?_)))));rcases ZM (decide (y≤hi)) with r | r
 ·have H:=ZL H r;refine ZX S rfl r ?_
  cases H
 have H:=ZN H r;refine ZR S rfl r (wp_skip (Zh (ao _ _ (Zm fun _ ap=>sr (mv S rfl fun f S=>ov S rfl (Zg S rfl rfl ZJe) fun f S=>oe ?_)))));rcases ZM (hi==(0:Int)) with s | s
 ·have H:=ZL H s;refine ZX S rfl s (Zm fun _ aq=>bO H fun ar aa H=>bO H fun au N H=>Zje (fl:=#[true,true,true,true,true,true,false,false]) ZTf (by kernel_rfl) S ?_);intro ops O F w S;refine rfa O F 0 rfl rfl S (ZA S rfl) fun f S=>rfa O F 1 rfl rfl S (ZA S rfl) fun f S=>rfa O F 2 rfl rfl S (Zg S rfl rfl (Zvc aa)) fun f S=>rfa O F 3 rfl rfl S (ZA S rfl) fun f S=>rfa O F 4 rfl rfl S (ZA S rfl) fun f S=>rfa O F 5 rfl rfl S (Zg S rfl rfl (Zrf N)) fun f S=>go1 O F 6 (nva [0,1,2] [3,4,5] O rfl rfl S (Z6c S rfl) fun f S=>⟨(py S rfl rfl (ZA S rfl) (py S rfl rfl (ZA S rfl) (py S rfl rfl (Zg S rfl rfl (Zrf N)) Zpc))),go1 O F 7 (nva [0,1,2,3,4,5,6] [] O rfl rfl S (Z6c S rfl) fun f S=>⟨Zpc,Z0e O F (Zh (aq _ _ ?_))⟩)⟩);refine wp_ret (Z9a ?_);obtain rfl:=Zp H;refine ZMa S (Z7e rfl (ZW S rfl) (ZW S rfl)) ⟨[.int .u64 ar],[.int .u64 au],rfl,(ZD (Znj aa)),(ZD (ZMp r2 N))⟩
 have H:=ZN H s;refine ZR S rfl s (wp_skip (Zh (ap _ _ (Zm fun _ av=>bO H fun h aw H=>Zv (mv S rfl fun f S=>opc S rfl (Zaa S [.int .u64 y] Znr rfl rfl) (ZMs S.vin (show Rep.rel (Zd .u64) _ [.int .u64 y] y from (ZD r3)) aw) ?_)))));rintro _ ab f w bd ⟨be,rfl,ax⟩ S;obtain ⟨rfl,bf⟩:=ax;refine ov S rfl (Zae S rfl (Zow _)) fun f S=>mw S rfl fun f S=>Zs (Zh (av _ _ (Zm fun _ ay=>bO H fun a az H=>Zv (mv S rfl fun f S=>mv S rfl fun f S=>ov S rfl (Zg S rfl rfl (Zbi az)) fun f S=>mw S rfl fun f S=>Zs (Zh (ay _ _ (Zm fun _ aA=>?_)))))));refine bO H fun g aB H=>Zv (mv S rfl fun f S=>ov S rfl (Zg S rfl rfl (ZZb aB)) fun f S=>mw S rfl fun f S=>Zs (Zh (aA _ _ (sr (mv S rfl fun f S=>ov S rfl (Zg S rfl rfl Zuh) fun f S=>mw S rfl fun f S=>oe (Zm fun _ aC=>bO H fun i aD H=>?_))))));refine bO H fun j aE H=>Zv (mv S rfl fun f S=>mv S rfl fun f S=>ov S rfl (Zg S rfl rfl (Zbi aD)) fun f S=>mv S rfl fun f S=>mv S rfl fun f S=>ov S rfl (Zg S rfl rfl Z1d) fun f S=>ov S rfl (Zg S rfl rfl (ZZb aE)) fun f S=>ov S rfl (Zg S rfl rfl ZPl) fun f S=>mw S rfl fun f S=>Zs ?_);have S:=S.fr' (σ':=[(1,.int .u64 lo),(2,.int .u64 a),(8,.int .u64 (IntKind.u64.wrap h)),(9,.int .u64 g),(10,.int .u64 (ZI .u64 a (4294967295:Int))),(11,.int .u64 (orI .u64 i j))]) rfl
 refine Zh (aC _ _ (Zm fun _ aF=>bO H fun k aG H=>Zv (mv S rfl fun f S=>mv S rfl fun f S=>ov S rfl (Zg S rfl rfl (Zbi aG)) fun f S=>mw S rfl fun f S=>Zs (Zh (aF _ _ (Zm fun _ aH=>bO H fun l aI H=>Zv (mv S rfl fun f S=>?_)))))));refine ov S rfl (Zg S rfl rfl (ZZb aI)) fun f S=>mw S rfl fun f S=>Zs (Zh (aH _ _ (sr (mv S rfl fun f S=>ov S rfl (Zg S rfl rfl Zuh) fun f S=>mw S rfl fun f S=>oe (Zm fun _ aJ=>bO H fun bg ac H=>Zv (mv S rfl fun f S=>mv S rfl fun f S=>?_))))));refine ov S rfl (Zg S rfl rfl (Zvc ac)) fun f S=>mw S rfl fun f S=>Zs (Zh (aJ _ _ (sr (mv S rfl fun f S=>mv S rfl fun f S=>mv S rfl fun f S=>ov S rfl (Zg S rfl rfl ZBb) fun f S=>ov S rfl (Zg S rfl rfl Z1d) fun f S=>mw S rfl fun f S=>oe (Zm fun _ aK=>?_)))));obtain ⟨aL,aM,aN⟩:=ZG H;refine ZBa (fun f w=>∃ d u,d=aL∧Zb.le ab u∧St 135 e c [(2,.int .u64 a),(8,.int .u64 (IntKind.u64.wrap h)),(9,.int .u64 g),(10,.int .u64 (ZI .u64 a (4294967295:Int))),(11,.int .u64 (orI .u64 i j)),(13,.int .u64 l),(14,.int .u64 (ZI .u64 k (4294967295:Int))),(15,.int .u64 d)] [] u f w∧inR .u64 d) (fun _ ad=>?_) ?_
 ·have H:=aM;refine wp_block ?_;obtain ⟨bh,aO,ae⟩:=ZG H;refine ZTb aO (fun aP f w=>∃ m n G,(m,n)=aP∧Zb.le ab G∧St 135 e c [(2,.int .u64 a),(8,.int .u64 (IntKind.u64.wrap h)),(9,.int .u64 g),(10,.int .u64 (ZI .u64 a (4294967295:Int))),(11,.int .u64 (orI .u64 i j)),(13,.int .u64 l),(14,.int .u64 (ZI .u64 k (4294967295:Int))),(15,.int .u64 m),(16,.int .u64 n)] [] G f w∧inR .u64 m∧inR .u64 n) ⟨_,_,_,rfl,(leR _),(S.fr' rfl),(Znj ac),(Zsa _ _)⟩ ?_;rintro _ f w st ⟨m,n,G,hq,P,S,aQ,bi⟩ H bj aR af;subst hq;refine Zm fun _ aS=>Zm fun _ aT=>?_;obtain ⟨aU,aV,aW⟩:=ZG H;refine ZBa (fun f w=>∃ I Q,I=aU∧Zb.le G Q∧St 135 e c [(2,.int .u64 a),(8,.int .u64 (IntKind.u64.wrap h)),(9,.int .u64 g),(10,.int .u64 (ZI .u64 a (4294967295:Int))),(11,.int .u64 (orI .u64 i j)),(13,.int .u64 l),(14,.int .u64 (ZI .u64 k (4294967295:Int))),(15,.int .u64 m),(16,.int .u64 n),(78,.bool I)] [] Q f w) (fun _ ag=>?_) ?_
  ·have H:=aV;refine Zv (mv S rfl fun f S=>ov S rfl (Zg S rfl rfl Zzc) fun f S=>mv S rfl fun f S=>?_);rcases ZM (decide ((4294967296:Int)≤m)) with v | v
   ·have H:=ZL H v;have S:=S.bool (t:=69) rfl v;refine opn S rfl rfl rfl rfl fun f S=>opn S rfl rfl rfl rfl fun f S=>opn S rfl rfl rfl rfl fun f S=>opn S rfl rfl rfl rfl fun f S=>opn S rfl rfl rfl rfl fun f S=>opn S rfl rfl rfl rfl fun f S=>opn S rfl rfl rfl rfl fun f S=>opn S rfl rfl rfl rfl fun f S=>ov S rfl (ZMb S (b:=true) rfl rfl) fun f S=>Zs ?_;obtain rfl:=Zp H;refine Zh (ag _ _ ⟨_,_,rfl,(leR _),(S.fr' rfl)⟩)
   have H:=ZN H v;have S:=S.bool (t:=69) rfl v;refine opy S rfl rfl rfl rfl (ZA S rfl) fun f S=>opy S rfl rfl rfl rfl (ZA S rfl) fun f S=>opy S rfl rfl rfl rfl (Zg S rfl rfl ZBb) fun f S=>opy S rfl rfl rfl rfl (ZA S rfl) fun f S=>opy S rfl rfl rfl rfl (Zg S rfl rfl ZBb) fun f S=>opy S rfl rfl rfl rfl (ZA S rfl) fun f S=>opy S rfl rfl rfl rfl (Zg S rfl rfl Zfc) fun f S=>opy S rfl rfl rfl rfl (Zg S rfl rfl Z5c) fun f S=>ov S rfl (ZMb S (b:=false) rfl rfl) fun f S=>Zs ?_;obtain rfl:=Zp H;refine Zh (ag _ _ ⟨_,_,rfl,(leR _),(S.fr' rfl)⟩)
  rintro f w ⟨I,Q,hq,R,S⟩;subst hq;have H:=aW;refine Zh (aT _ _ ?_);rcases ZM (I) with x | x
  ·have H:=ZL H x;refine ZX S rfl x (wp_skip (Zh (aS _ _ (wp_block (sr (mv S rfl fun f S=>ov S rfl (Zg S rfl rfl Z1d) fun f S=>mw S rfl fun f S=>oe (sr (mv S rfl fun f S=>mv S rfl fun f S=>ov S rfl (Zg S rfl rfl Zfc) fun f S=>mw S rfl fun f S=>?_))))))));refine oe (sr (mv S rfl fun f S=>ov S rfl (Zg S rfl rfl Zzc) fun f S=>oe ?_));rcases ZM (decide ((4294967296:Int)≤IntKind.u64.wrap (n+g))) with A | A
   ·have H:=ZL H A;refine ZX S rfl A (wp_exit (Zem rfl ?_));obtain rfl:=Zp H;have hq:=af _ rfl;subst hq;have H:=ae;refine Z2 (Zjb ?_);obtain rfl:=Zp H;refine Zh (ad _ _ ⟨_,_,rfl,(leT (leT (leR _) P) R),(S.fr' rfl),(Zsa _ _)⟩)
   have H:=ZN H A;refine ZR S rfl A (wp_skip (ZEb ?_));obtain rfl:=Zp H;refine aR _ rfl _ _ ⟨_,_,_,rfl,(leT P R),(S.fr' rfl),(Zsa _ _),(Zsa _ _)⟩
  have H:=ZN H x;refine ZR S rfl x (wp_exit (Z2 ?_));obtain rfl:=Zp H;have hq:=af _ rfl;subst hq;have H:=ae;refine Z2 (Zjb ?_);obtain rfl:=Zp H;refine Zh (ad _ _ ⟨_,_,rfl,(leT (leT (leR _) P) R),(S.fr' rfl),aQ⟩)
 rintro f w ⟨d,u,hq,bk,S,bm⟩;subst hq;have H:=aN;refine Zh (aK _ _ (sr (mv S rfl fun f S=>ov S rfl (Zg S rfl rfl ZBb) fun f S=>mv S rfl fun f S=>ov S rfl (Zg S rfl rfl Zfc) fun f S=>mv S rfl fun f S=>mv S rfl fun f S=>ov S rfl (Zg S rfl rfl ZBb) fun f S=>ov S rfl (Zg S rfl rfl Z1d) fun f S=>mw S rfl fun f S=>oe (Zm fun _ aX=>bO H fun bn ah H=>?_))));refine Zv (mv S rfl fun f S=>mv S rfl fun f S=>ov S rfl (Zg S rfl rfl (Zvc ah)) fun f S=>mw S rfl fun f S=>Zs (Zh (aX _ _ (sr (mv S rfl fun f S=>mv S rfl fun f S=>mv S rfl fun f S=>ov S rfl (Zg S rfl rfl ZBb) fun f S=>ov S rfl (Zg S rfl rfl Z1d) fun f S=>mw S rfl fun f S=>?_)))));refine oe (Zm fun _ aY=>?_);obtain ⟨aZ,a0,a1⟩:=ZG H;refine ZBa (fun f w=>∃ B T,B=aZ∧Zb.le u T∧St 135 e c [(2,.int .u64 a),(8,.int .u64 (IntKind.u64.wrap h)),(14,.int .u64 (ZI .u64 k (4294967295:Int))),(15,.int .u64 d),(17,.int .u64 (IntKind.u64.wrap ((IntKind.u64.wrap ((IntKind.u64.wrap ((orI .u64 i j)*(4294967296:Int)))+l))-(IntKind.u64.wrap (d*a))))),(18,.int .u64 B)] [] T f w∧inR .u64 B) (fun _ ai=>?_) ?_
 ·have H:=a0;refine wp_block ?_;obtain ⟨bo,a2,aj⟩:=ZG H;refine ZTb a2 (fun a3 f w=>∃ o p J,(o,p)=a3∧Zb.le u J∧St 135 e c [(2,.int .u64 a),(8,.int .u64 (IntKind.u64.wrap h)),(9,.int .u64 g),(10,.int .u64 (ZI .u64 a (4294967295:Int))),(14,.int .u64 (ZI .u64 k (4294967295:Int))),(15,.int .u64 d),(16,.int .u64 o),(17,.int .u64 (IntKind.u64.wrap ((IntKind.u64.wrap ((IntKind.u64.wrap ((orI .u64 i j)*(4294967296:Int)))+l))-(IntKind.u64.wrap (d*a))))),(18,.int .u64 p)] [] J f w∧inR .u64 o∧inR .u64 p) ⟨_,_,_,rfl,(leR _),(S.fr' rfl),(Zsa _ _),(Znj ah)⟩ ?_;rintro _ f w st ⟨o,p,J,hq,U,S,bp,a4⟩ H bq a5 ak;subst hq;refine Zm fun _ a6=>Zm fun _ a7=>?_;obtain ⟨a8,a9,ba⟩:=ZG H;refine ZBa (fun f w=>∃ L V,L=a8∧Zb.le J V∧St 135 e c [(2,.int .u64 a),(8,.int .u64 (IntKind.u64.wrap h)),(9,.int .u64 g),(10,.int .u64 (ZI .u64 a (4294967295:Int))),(14,.int .u64 (ZI .u64 k (4294967295:Int))),(15,.int .u64 d),(16,.int .u64 o),(17,.int .u64 (IntKind.u64.wrap ((IntKind.u64.wrap ((IntKind.u64.wrap ((orI .u64 i j)*(4294967296:Int)))+l))-(IntKind.u64.wrap (d*a))))),(18,.int .u64 p),(113,.bool L)] [] V f w) (fun _ al=>?_) ?_
  ·have H:=a9;refine Zv (mv S rfl fun f S=>ov S rfl (Zg S rfl rfl Zzc) fun f S=>mv S rfl fun f S=>?_);rcases ZM (decide ((4294967296:Int)≤p)) with C | C
   ·have H:=ZL H C;have S:=S.bool (t:=104) rfl C;refine opn S rfl rfl rfl rfl fun f S=>opn S rfl rfl rfl rfl fun f S=>opn S rfl rfl rfl rfl fun f S=>opn S rfl rfl rfl rfl fun f S=>opn S rfl rfl rfl rfl fun f S=>opn S rfl rfl rfl rfl fun f S=>opn S rfl rfl rfl rfl fun f S=>opn S rfl rfl rfl rfl fun f S=>ov S rfl (ZMb S (b:=true) rfl rfl) fun f S=>Zs ?_;obtain rfl:=Zp H;refine Zh (al _ _ ⟨_,_,rfl,(leR _),(S.fr' rfl)⟩)
   have H:=ZN H C;have S:=S.bool (t:=104) rfl C;refine opy S rfl rfl rfl rfl (ZA S rfl) fun f S=>opy S rfl rfl rfl rfl (ZA S rfl) fun f S=>opy S rfl rfl rfl rfl (Zg S rfl rfl ZBb) fun f S=>opy S rfl rfl rfl rfl (ZA S rfl) fun f S=>opy S rfl rfl rfl rfl (Zg S rfl rfl ZBb) fun f S=>opy S rfl rfl rfl rfl (ZA S rfl) fun f S=>opy S rfl rfl rfl rfl (Zg S rfl rfl Zfc) fun f S=>opy S rfl rfl rfl rfl (Zg S rfl rfl Z5c) fun f S=>ov S rfl (ZMb S (b:=false) rfl rfl) fun f S=>Zs ?_;obtain rfl:=Zp H;refine Zh (al _ _ ⟨_,_,rfl,(leR _),(S.fr' rfl)⟩)
  rintro f w ⟨L,V,hq,W,S⟩;subst hq;have H:=ba;refine Zh (a7 _ _ ?_);rcases ZM (L) with D | D
  ·have H:=ZL H D;refine ZX S rfl D (wp_skip (Zh (a6 _ _ (wp_block (sr (mv S rfl fun f S=>ov S rfl (Zg S rfl rfl Z1d) fun f S=>mw S rfl fun f S=>oe (sr (mv S rfl fun f S=>mv S rfl fun f S=>ov S rfl (Zg S rfl rfl Zfc) fun f S=>mw S rfl fun f S=>?_))))))));refine oe (sr (mv S rfl fun f S=>ov S rfl (Zg S rfl rfl Zzc) fun f S=>oe ?_));rcases ZM (decide ((4294967296:Int)≤IntKind.u64.wrap (o+g))) with E | E
   ·have H:=ZL H E;refine ZX S rfl E (wp_exit (Zem rfl ?_));obtain rfl:=Zp H;have hq:=ak _ rfl;subst hq;have H:=aj;refine Z2 (Zjb ?_);obtain rfl:=Zp H;refine Zh (ai _ _ ⟨_,_,rfl,(leT (leT (leR _) U) W),(S.fr' rfl),(Zsa _ _)⟩)
   have H:=ZN H E;refine ZR S rfl E (wp_skip (ZEb ?_));obtain rfl:=Zp H;refine a5 _ rfl _ _ ⟨_,_,_,rfl,(leT U W),(S.fr' rfl),(Zsa _ _),(Zsa _ _)⟩
  have H:=ZN H D;refine ZR S rfl D (wp_exit (Z2 ?_));obtain rfl:=Zp H;have hq:=ak _ rfl;subst hq;have H:=aj;refine Z2 (Zjb ?_);obtain rfl:=Zp H;refine Zh (ai _ _ ⟨_,_,rfl,(leT (leT (leR _) U) W),(S.fr' rfl),a4⟩)
 rintro f w ⟨B,T,hq,br,S,bs⟩;subst hq;have H:=a1;refine Zh (aY _ _ (Zm fun _ bb=>bO H fun bc am H=>Zv (mv S rfl fun f S=>ov S rfl (Zg S rfl rfl ZBb) fun f S=>mv S rfl fun f S=>ov S rfl (Zg S rfl rfl Zfc) fun f S=>mv S rfl fun f S=>ov S rfl (Zg S rfl rfl ZBb) fun f S=>mv S rfl fun f S=>ov S rfl (Zg S rfl rfl Zfc) fun f S=>mv S rfl fun f S=>mv S rfl fun f S=>?_)));refine ov S rfl (Zg S rfl rfl ZBb) fun f S=>ov S rfl (Zg S rfl rfl Z1d) fun f S=>mv S rfl fun f S=>ov S rfl (Zg S rfl rfl (ZZb am)) fun f S=>mw S rfl fun f S=>mw S rfl fun f S=>Zs (Zh (bb _ _ (wp_ret ?_)));obtain rfl:=Zp H;refine ZMa S (Z7e rfl (ZW S rfl) (ZW S rfl)) ⟨[.int .u64 (IntKind.u64.wrap ((IntKind.u64.wrap (d*(4294967296:Int)))+B))],[.int .u64 bc],rfl,(ZD (Zsa _ _)),(ZD (ZDg (Zsa _ _) am))⟩
theorem ZXq {b:World} {a:Zb} (hv:VIn a b) {c:List Value} {hi:Int} (h:Rep.rel (Zd .u64) a c hi) {d:List Value} {lo:Int} (i:Rep.rel (Zd .u64) a d lo) {e:List Value} {y:Int} (j:Rep.rel (Zd .u64) a e y) {z:Int×Int} (hm:ZAd hi lo y=some z) :
  Ret Tryz.prog 166 #[(Zd .u64).val c,(Zd .u64).val d,(Zd .u64).val e] b a (fun y v'=>∃ f g,y=Value.tuple #[(Zd .u64).val f,(Zd .u64).val g]∧(Zd .u64).rel v' f z.1∧(Zd .u64).rel v' g z.2) :=
 div64_w hv h i j (Z1x hm)
theorem Zdw {E:World} {d:Zb} (hv:VIn d E) {R:List Value} {a:Nat} (g:Rep.rel Zx d R a) {T:List Value} {n:Int} (p1:Rep.rel (Zd .u64) d T n) {z:Nat×Int} (H:Zij a n=some z):Ret Tryz.prog 127 #[Zx.val R,(Zd .u64).val T] E d (fun y v'=>∃ U V,y = .tuple #[Zx.val U,(Zd .u64).val V]∧Zx.rel v' U z.1∧(Zd .u64).rel v' V z.2):=by
 obtain ⟨W,X,Y,rfl⟩:=Zqa g;obtain ⟨rfl,r4⟩:=p1;refine ZWb (K:=35) (args:=[.slice W X Y,.int .u64 n]) hv Tryz.func127 rfl rfl zl fun f S=>?_;unfold Zij at H;refine sr (mw S rfl fun f S=>mw S rfl fun f S=>oe (Zm fun _ ah=>bO H fun y9 F H=>Zv (mv S rfl fun f S=>ov S rfl (Zka S (ZK g) rfl rfl ZC) fun f S=>?_)));obtain ⟨Z,aa⟩:∃ c:List Value,c=(List.replicate ((((Zc 18446744073709551616 a)).length:Int)).toNat [.int .u64 0]).flatten:=⟨_,rfl⟩;obtain ⟨ai,w,aj,S⟩:=Zyi ZPe S (l:=(((Zc 18446744073709551616 a)).length:Int)) (c:=(((Zc 18446744073709551616 a)).length:Int)) (ZUa F).1 (ZUa F).2.1 (ZUa F).2.2.1 (ZUa F).2.2.2 aa;have ak:Rep.rels (Zd .u64) d Z (List.replicate ((((Zc 18446744073709551616 a)).length:Int)).toNat (0:Int)):=by rw [aa];exact ZIe (show Rep.rel (Zd .u64) _ [.int .u64 0] _ from (ZD (by decide))) _
 refine ZSb wn rfl zl (aj rfl rfl) S fun f S=>mw S rfl fun f S=>Zs (Zh (ah _ _ (sr (mw S rfl fun f S=>oe (Zm fun _ al=>Zm fun _ am=>bO H fun aV ab H=>Zv (mv S rfl fun f S=>ov S rfl (Zka S (ZK g) rfl rfl ZC) fun f S=>ov S rfl (Zg S rfl rfl (ZIa ab)) fun f S=>?_))))));refine mw S rfl fun f S=>Zs (Zh (am _ _ ?_));obtain ⟨an,ao,ap⟩:=ZG H;refine ZBa (fun f w=>∃ o s t p u L G,(o,s)=an∧Zb.le d G∧St 35 E d [(6,.slice (mkA t) p u),(7,.int .u64 s)] [Loc.own t 148 1 p u L] G f w∧Rep.rels (Zd .u64) G L o∧p=o.length∧inR .u64 s) (fun _ aq=>?_) ?_
 ·have H:=ao;refine wp_block ?_;obtain ⟨aW,ar,au⟩:=ZG H;refine ZTb ar (fun av f w=>∃ q h b I k v e J,(q,h,b)=av∧Zb.le d J∧St 35 E d [(0,.slice W X Y),(1,.int .u64 n),(6,.slice (mkA I) k v),(7,.int .u64 h),(8,.int .i64 b)] [Loc.own I 148 1 k v e] J f w∧Rep.rels (Zd .u64) J e q∧k=q.length∧inR .u64 h∧inR .i64 b) ⟨_,_,_,some ai,((((Zc 18446744073709551616 a)).length:Int)).toNat,((((Zc 18446744073709551616 a)).length:Int)).toNat,Z,_,rfl,(leR _),(S.fr' rfl),ak,(repN (x:=(0:Int))),(by decide),(ZCa ab).2⟩ ?_;rintro _ f w st ⟨q,h,b,I,k,v,e,J,hq,M,S,B,C,ac,aX⟩ H aY aw ax;subst hq;refine Zm fun _ ay=>sr (mv S rfl fun f S=>ov S rfl (Zg S rfl rfl Zzc) fun f S=>oe ?_);rcases ZM (decide ((0:Int)≤b)) with D | D
  ·have H:=ZL H D;refine ZX S rfl D (wp_skip (Zh (ay _ _ (Zm fun _ az=>wp_block (bO H fun N O H=>bO H fun m aA H=>bO H fun aZ r H=>Zv (mv S rfl fun f S=>mv S rfl fun f S=>mv S rfl fun f S=>mv S rfl fun f S=>mv S rfl fun f S=>?_))))));have g:=Zda M g;obtain ⟨_,a0,a1,a2,rfl,P,aB⟩:=Zqb g (Zi O).2.1;obtain ⟨rfl,aC⟩:=aB;refine ov S rfl (ZQ S rfl rfl ZC (Zi O).1 (ltI (ZK g) (Zi O).2.2.1)) fun f S=>ov S rfl (Zoa S rfl Z8 (S.view P)) fun f S=>mv S rfl fun f S=>opc S rfl (Zaa S [.int .u64 h,.int .u64 N,.int .u64 n] ZSs rfl rfl) (ZXq S.vin (show Rep.rel (Zd .u64) _ [.int .u64 h] h from (ZD ac)) (show Rep.rel (Zd .u64) _ [.int .u64 N] N from (ZD aC)) (show Rep.rel (Zd .u64) _ [.int .u64 n] n from (ZD r4)) aA) ?_;rintro _ ad f w Q ⟨a3,a4,rfl,aD,aE⟩ S;have B:=Z0 Q B;have P:=Atm Q P;obtain ⟨rfl,aF⟩:=aD;obtain ⟨rfl,aG⟩:=aE;refine mv S rfl fun f S=>ov S rfl (ZFa S rfl rfl) fun f S=>ov S rfl (ZFa S rfl rfl) fun f S=>?_;obtain ⟨aH,rfl⟩:=ZJc S (j:=0) rfl (posN C (Zi r).2.2.2);have ae:=Zpa B (Zi r).2.1;obtain ⟨a5,aI⟩:∃ c,(List.take (Zd .u64).n (List.drop ((b).toNat*(Zd .u64).n) e))=c:=⟨_,rfl⟩
   rw [aI] at ae;obtain ⟨rfl,a6⟩:=ae;refine ov S rfl (ZQ S rfl rfl ZC (Zi r).1 (ltI C (Zi r).2.2.1)) fun f S=>?_;obtain ⟨w,aJ,S⟩:=Z1b S Z8 (off:=0+(b).toNat*1) (z:=.int .u64 (m.1)) (cs:=[.int .u64 (m.1)]) (ZKb rfl) rfl (i:=0) rfl (ZVd S (j:=0) rfl (ltN C (Zi r).2.2.2)) (by first | rfl | simp [plain]);have aK:Rep.rels (Zd .u64) ad (List.take (0+(b).toNat*1) e++[Value.int IntKind.u64 (m.1)]++List.drop (0+(b).toNat*1+1) e) (q.set (b).toNat m.1):=Zxd B (Zi r).2.2.2 (show Rep.rel (Zd .u64) ad [.int .u64 (m.1)] _ from (ZD aF)) rfl rfl;have aL:k=(q.set (b).toNat m.1).length:=Zce C;refine Zpg wn rfl (aJ rfl rfl) (mw S rfl fun f S=>Zs (ZEb (Zh (az _ _ (bO H fun a7 af H=>Zv (mv S rfl fun f S=>ov S rfl (Zg S rfl rfl (ZIa af)) fun f S=>mw S rfl fun f S=>Zs ?_))))));obtain rfl:=Zp H;refine aw _ rfl _ _ ⟨_,_,_,some aH,k,v,(List.take (0+(b).toNat*1) e++[Value.int IntKind.u64 (m.1)]++List.drop (0+(b).toNat*1+1) e),_,rfl,(leT M Q),(S.fr' rfl),aK,aL,aG,(ZCa af).2⟩
  have H:=ZN H D;refine ZR S rfl D (wp_exit (Z2 ?_));obtain rfl:=Zp H;have hq:=ax _ rfl;subst hq;have H:=au;refine Z2 (Zjb ?_);obtain rfl:=Zp H;refine Zh (aq _ _ ⟨_,_,I,k,v,e,_,rfl,(leT (leR _) M),(S.fr' rfl),B,C,ac⟩)
 rintro f w ⟨o,s,t,p,u,L,G,hq,a8,S,aM,aN,aO⟩;subst hq;have H:=ap;refine Zh (al _ _ (Zm fun _ aP=>bO H fun a9 aQ H=>Zv (mv S rfl fun f S=>?_)));obtain ⟨ba,bb,S,aR⟩:=S.pubSlice (i:=0) (A:=(Zd .u64)) (l:=o) (ℓ':=[]) rfl rfl aN aM rfl;refine opc S rfl (Zaa S [.slice (mkA t) p u] Zuf rfl rfl) (ZBf S.vin (show Rep.rel (Zw (Zd .u64)) _ [.slice (mkA t) p u] o from aR) aQ) ?_;rintro _ bc f w bd ⟨be,rfl,ag⟩ S;obtain ⟨aS,aT,aU,rfl⟩:=Zqa ag;refine mv S rfl fun f S=>mw S rfl fun f S=>mw S rfl fun f S=>Zs (Zh (aP _ _ (wp_ret ?_)));obtain rfl:=Zp H;refine ZMa S (Z7e rfl (ZW S rfl) (ZW S rfl)) ⟨[.slice aS aT aU],[.int .u64 s],rfl,ag,(ZD aO)⟩
theorem ZGp {c:World} {b:Zb} (hv:VIn b c) {d:List Value} {a:Nat} (i:Rep.rel Zx b d a) {e:List Value} {n:Int} (f:Rep.rel (Zd .u64) b e n) {z:Nat×Int} (hm:Zye a n=some z) :
  Ret Tryz.prog 127 #[Zx.val d,(Zd .u64).val e] c b (fun y v'=>∃ g h,y=Value.tuple #[Zx.val g,(Zd .u64).val h]∧Zx.rel v' g z.1∧(Zd .u64).rel v' h z.2) :=
 Zdw hv i f (Zgu f.2 hm)
theorem cmp_w {m:World} {e:Zb} (hv:VIn e m) {A:List Value} {a:(List Int)} (c:Rep.rel (Zw (Zd .u64)) e A a) {B:List Value} {b:(List Int)} (d:Rep.rel (Zw (Zd .u64)) e B b) {z:Int} (H:Zgj a b=some z):Ret Tryz.prog 60 #[(Zw (Zd .u64)).val A,(Zw (Zd .u64)).val B] m e (fun y v'=>∃ C,y=(Zd .i64).val C∧(Zd .i64).rel v' C z):=by
 obtain ⟨D,E,G,rfl⟩:=Zun c;obtain ⟨I,J,L,rfl⟩:=Zun d;refine ZWb (K:=41) (args:=[.slice D E G,.slice I J L]) hv Tryz.func60 rfl rfl zl fun f S=>?_;unfold Zgj at H;refine sr (mw S rfl fun f S=>oe (Zm fun _ P=>sr (mv S rfl fun f S=>ov S rfl (Zka S (ZK c) rfl rfl ZC) fun f S=>mv S rfl fun f S=>ov S rfl (Zka S (ZK d) rfl rfl ZC) fun f S=>ov S rfl (Zg S rfl rfl Z5r) fun f S=>oe ?_)));rcases ZM (((a.length:Int)) != ((b.length:Int))) with g | g
 ·have H:=ZL H g;refine ZX S rfl g (Zm fun _ Q=>sr (mv S rfl fun f S=>ov S rfl (Zka S (ZK c) rfl rfl ZC) fun f S=>mv S rfl fun f S=>ov S rfl (Zka S (ZK d) rfl rfl ZC) fun f S=>ov S rfl (Zg S rfl rfl Zlc) fun f S=>oe ?_));rcases ZM (decide ((a.length:Int)<(b.length:Int))) with h | h
  ·have H:=ZL H h;refine ZX S rfl h (sr (mw S rfl fun f S=>oe (wp_ret (Z9a (Z9a ?_)))));obtain rfl:=Zp H;refine ZMa S (ZVa rfl (ZW S rfl)) ⟨[.int .i64 (-1:Int)],rfl,(ZD (by decide))⟩
  have H:=ZN H h;refine ZR S rfl h (wp_skip (Zh (Q _ _ (sr (mw S rfl fun f S=>oe (wp_ret (Z9a ?_)))))));obtain rfl:=Zp H;refine ZMa S (ZVa rfl (ZW S rfl)) ⟨[.int .i64 1],rfl,(ZD (by decide))⟩
 have H:=ZN H g;refine ZR S rfl g (wp_skip (Zh (P _ _ (Zm fun _ R=>Zm fun _ T=>bO H fun ar M H=>Zv (mv S rfl fun f S=>ov S rfl (Zka S (ZK c) rfl rfl ZC) fun f S=>ov S rfl (Zg S rfl rfl (ZIa M)) fun f S=>mw S rfl fun f S=>Zs (Zh (T _ _ ?_)))))));obtain ⟨U,V,o⟩:=ZG H;refine ZBa (fun f w=>∃  (p:Zb),(.inl (()))=U∧Zb.le e p∧St 41 m e [] [] p f w) (fun _ W=>?_) ?_
 ·have H:=V;refine wp_block ?_;obtain ⟨au,X,q⟩:=ZG H;refine ZTb X (fun Y f w=>∃ i r,i=Y∧Zb.le e r∧St 41 m e [(0,.slice D E G),(1,.slice I J L),(5,.int .i64 i)] [] r f w∧inR .i64 i) ⟨_,_,rfl,(leR _),(S.fr' rfl),(ZCa M).2⟩ ?_;rintro _ f w st ⟨i,r,hq,n,S,av⟩ H aw Z s;subst hq;refine Zm fun _ aa=>sr (mv S rfl fun f S=>ov S rfl (Zg S rfl rfl Zzc) fun f S=>oe ?_);rcases ZM (decide ((0:Int)≤i)) with j | j
  ·have H:=ZL H j;refine ZX S rfl j (wp_skip (Zh (aa _ _ (Zm fun _ ab=>wp_block (Zm fun _ ac=>Zm fun _ ad=>bO H fun ae t H=>bO H fun af u H=>Zje (fl:=#[true,true,true,true,true,true,true,true,true]) ZTf (by kernel_rfl) S ?_)))));intro ops O F w S;refine rfa O F 0 rfl rfl S (ZA S rfl) fun f S=>rfa O F 1 rfl rfl S (ZA S rfl) fun f S=>?_;have c:=Zda n c;obtain ⟨_,ax,ay,az,rfl,ag,ah⟩:=Zqb c (Zi t).2.1;obtain ⟨rfl,aA⟩:=ah;refine rfa O F 2 rfl rfl S (ZQ S rfl rfl ZC (Zi t).1 (ltI (ZK c) (Zi t).2.2.1)) fun f S=>rfa O F 3 rfl rfl S (Zoa S rfl Z8 (S.view ag)) fun f S=>rfa O F 4 rfl rfl S (ZA S rfl) fun f S=>rfa O F 5 rfl rfl S (ZA S rfl) fun f S=>?_;have d:=Zda n d;obtain ⟨_,aB,aC,aD,rfl,ai,aj⟩:=Zqb d (Zi u).2.1;obtain ⟨rfl,aE⟩:=aj;refine rfa O F 6 rfl rfl S (ZQ S rfl rfl ZC (Zi u).1 (ltI (ZK d) (Zi u).2.2.1)) fun f S=>rfa O F 7 rfl rfl S (Zoa S rfl Z8 (S.view ai)) fun f S=>rfa O F 8 rfl rfl S (Zg S rfl rfl Zlc) fun f S=>Z0e O F (Zh (ad _ _ ?_));rcases ZM (decide (ae<af)) with k | k
   ·have H:=ZL H k;refine ZX S rfl k (sr (mw S rfl fun f S=>oe (wp_ret (Z9a (Z9g (Z9a ?_))))));obtain rfl:=Zp H;have hq:=s _ rfl;subst hq;have H:=q;refine Z9a (Z9g ?_);obtain rfl:=Zp H;have H:=o;refine Z9a (Z9a ?_);obtain rfl:=Zp H;refine ZMa S (ZVa rfl (ZW S rfl)) ⟨[.int .i64 (-1:Int)],rfl,(ZD (by decide))⟩
   have H:=ZN H k;refine ZR S rfl k (wp_skip (Zh (ac _ _ (Zm fun _ ak=>bO H fun al v H=>bO H fun am x H=>Zje (fl:=#[true,true,true,true,true,true,true,true,true]) ZTf (by kernel_rfl) S ?_))));intro ops O F w S;refine rfa O F 0 rfl rfl S (ZA S rfl) fun f S=>rfa O F 1 rfl rfl S (ZA S rfl) fun f S=>?_;obtain ⟨aF,an,ao⟩:=ZHg c (Zi v).2.1;obtain ⟨rfl,aG⟩:=ao;refine rfa O F 2 rfl rfl S (ZQ S rfl rfl ZC (Zi v).1 (ltI (ZK c) (Zi v).2.2.1)) fun f S=>rfa O F 3 rfl rfl S (Zoa S rfl Z8 (S.view an)) fun f S=>rfa O F 4 rfl rfl S (ZA S rfl) fun f S=>rfa O F 5 rfl rfl S (ZA S rfl) fun f S=>?_;obtain ⟨aH,ap,aq⟩:=ZHg d (Zi x).2.1;obtain ⟨rfl,aI⟩:=aq;refine rfa O F 6 rfl rfl S (ZQ S rfl rfl ZC (Zi x).1 (ltI (ZK d) (Zi x).2.2.1)) fun f S=>rfa O F 7 rfl rfl S (Zoa S rfl Z8 (S.view ap)) fun f S=>rfa O F 8 rfl rfl S (Zg S rfl rfl Z5c) fun f S=>Z0e O F (Zh (ak _ _ ?_));rcases ZM (decide (am<al)) with l | l
   ·have H:=ZL H l;refine ZX S rfl l (sr (mw S rfl fun f S=>oe (wp_ret (Z9g (Z9a ?_)))));obtain rfl:=Zp H;have hq:=s _ rfl;subst hq;have H:=q;refine Z9a (Z9g ?_);obtain rfl:=Zp H;have H:=o;refine Z9a (Z9a ?_);obtain rfl:=Zp H;refine ZMa S (ZVa rfl (ZW S rfl)) ⟨[.int .i64 1],rfl,(ZD (by decide))⟩
   have H:=ZN H l;refine ZR S rfl l (wp_skip (ZEb (Zh (ab _ _ (bO H fun aJ N H=>Zv (mv S rfl fun f S=>ov S rfl (Zg S rfl rfl (ZIa N)) fun f S=>mw S rfl fun f S=>Zs ?_))))));obtain rfl:=Zp H;refine Z _ rfl _ _ ⟨_,_,rfl,n,(S.fr' rfl),(ZCa N).2⟩
  have H:=ZN H j;refine ZR S rfl j (wp_exit (Z2 ?_));obtain rfl:=Zp H;have hq:=s _ rfl;subst hq;have H:=q;refine Z2 (Zjb ?_);obtain rfl:=Zp H;refine Zh (W _ _ ⟨_,rfl,(leT (leR _) n),(S.fr' rfl)⟩)
 rintro f w ⟨p,hq,aK,S⟩;subst hq;have H:=o;refine Zh (R _ _ (sr (mw S rfl fun f S=>oe (wp_ret ?_))));obtain rfl:=Zp H;refine ZMa S (ZVa rfl (ZW S rfl)) ⟨[.int .i64 0],rfl,(ZD (by decide))⟩
theorem cmp_c {d:World} {c:Zb} (hv:VIn c d) {e:List Value} {a:Nat} (f:Rep.rel Zx c e a) {g:List Value} {b:Nat} (h:Rep.rel Zx c g b) {z:Int} (hm:Zid a b=some z) :
  Ret Tryz.prog 60 #[Zx.val e,Zx.val g] d c (fun y v'=>∃ i,y=(Zd .i64).val i∧(Zd .i64).rel v' i z) :=
 cmp_w hv f h ((ZSr (ZUk f) (ZUk h)).trans hm)
theorem mul64_w {e:World} {a:Zb} (hv:VIn a e) {g:List Value} {x:Int} (l:Rep.rel (Zd .u64) a g x) {h:List Value} {y:Int} (m:Rep.rel (Zd .u64) a h y) {z:Int×Int} (H:ZOh x y=some z):Ret Tryz.prog 106 #[(Zd .u64).val g,(Zd .u64).val h] e a (fun y v'=>∃ i c,y = .tuple #[(Zd .u64).val i,(Zd .u64).val c]∧(Zd .u64).rel v' i z.1∧(Zd .u64).rel v' c z.2):=by
 obtain ⟨rfl,c⟩:=l;obtain ⟨rfl,B⟩:=m;refine ZWb (K:=51) (args:=[.int .u64 x,.int .u64 y]) hv Tryz.func106 rfl rfl zl fun f S=>?_;unfold ZOh at H;refine sr (mw S rfl fun f S=>mw S rfl fun f S=>oe (sr (mv S rfl fun f S=>ov S rfl (Zg S rfl rfl Zuh) fun f S=>mw S rfl fun f S=>oe (Zm fun _ n=>bO H fun b o H=>Zv (mv S rfl fun f S=>ov S rfl (Zg S rfl rfl (ZZb o)) fun f S=>?_)))));refine mw S rfl fun f S=>Zs (Zh (n _ _ (sr (mv S rfl fun f S=>ov S rfl (Zg S rfl rfl Zuh) fun f S=>mw S rfl fun f S=>oe (Zm fun _ p=>bO H fun d q H=>Zv (mv S rfl fun f S=>ov S rfl (Zg S rfl rfl (ZZb q)) fun f S=>mw S rfl fun f S=>?_))))));refine Zs (Zh (p _ _ (sr (mv S rfl fun f S=>mv S rfl fun f S=>ov S rfl (Zg S rfl rfl ZBb) fun f S=>mw S rfl fun f S=>oe (Zm fun _ r=>bO H fun s t H=>Zv (mv S rfl fun f S=>mv S rfl fun f S=>ov S rfl (Zg S rfl rfl ZBb) fun f S=>?_))))));refine mv S rfl fun f S=>ov S rfl (Zg S rfl rfl (ZZb t)) fun f S=>ov S rfl (Zg S rfl rfl Zfc) fun f S=>mw S rfl fun f S=>Zs ?_;have S:=S.fr' (σ':=[(0,.int .u64 x),(1,.int .u64 y),(6,.int .u64 (ZI .u64 x (4294967295:Int))),(7,.int .u64 b),(9,.int .u64 d),(11,.int .u64 (IntKind.u64.wrap ((IntKind.u64.wrap (b*(ZI .u64 y (4294967295:Int))))+s)))]) rfl;refine Zh (r _ _ (sr (mv S rfl fun f S=>ov S rfl (Zg S rfl rfl Zuh) fun f S=>mw S rfl fun f S=>oe (Zm fun _ u=>bO H fun j v H=>Zv (mv S rfl fun f S=>ov S rfl (Zg S rfl rfl (ZZb v)) fun f S=>mw S rfl fun f S=>Zs (Zh (u _ _ ?_)))))))
 refine sr (mv S rfl fun f S=>mv S rfl fun f S=>mv S rfl fun f S=>ov S rfl (Zg S rfl rfl ZBb) fun f S=>ov S rfl (Zg S rfl rfl Zfc) fun f S=>mw S rfl fun f S=>oe (Zm fun _ w=>bO H fun k A H=>Zv (mv S rfl fun f S=>mv S rfl fun f S=>ov S rfl (Zg S rfl rfl ZBb) fun f S=>?_)));refine mv S rfl fun f S=>ov S rfl (Zg S rfl rfl Zfc) fun f S=>mv S rfl fun f S=>ov S rfl (Zg S rfl rfl (ZZb A)) fun f S=>ov S rfl (Zg S rfl rfl Zfc) fun f S=>mw S rfl fun f S=>Zs (Zh (w _ _ (sr (mv S rfl fun f S=>mv S rfl fun f S=>ov S rfl (Zg S rfl rfl ZBb) fun f S=>mw S rfl fun f S=>?_))));have S:=S.fr' (σ':=[(4,.int .u64 (IntKind.u64.wrap ((IntKind.u64.wrap ((IntKind.u64.wrap (b*d))+j))+k))),(5,.int .u64 (IntKind.u64.wrap (x*y)))]) rfl;refine oe (wp_ret ?_);obtain rfl:=Zp H;refine ZMa S (Z7e rfl (ZW S rfl) (ZW S rfl)) ⟨[.int .u64 (IntKind.u64.wrap ((IntKind.u64.wrap ((IntKind.u64.wrap (b*d))+j))+k))],[.int .u64 (IntKind.u64.wrap (x*y))],rfl,(ZD (Zsa _ _)),(ZD (Zsa _ _))⟩
theorem Zko {b:World} {a:Zb} (hv:VIn a b) {c:List Value} {x:Int} (g:Rep.rel (Zd .u64) a c x) {d:List Value} {y:Int} (h:Rep.rel (Zd .u64) a d y) {z:Int×Int} (hm:ZEc x y=some z) :
  Ret Tryz.prog 106 #[(Zd .u64).val c,(Zd .u64).val d] b a (fun y v'=>∃ e f,y=Value.tuple #[(Zd .u64).val e,(Zd .u64).val f]∧(Zd .u64).rel v' e z.1∧(Zd .u64).rel v' f z.2) :=
 mul64_w hv g h (ZBr hm)
theorem take_w {R:World} {o:Zb} (hv:VIn o R) {a off0 g C:Nat} {E:TypeId} {pre0 cs0 post0:List Value} {u:(List Int)} (bf:R.heap[a]? = some (.cells (pre0++cs0++post0).toArray E (0,0))) (aG:off0=pre0.length) (bg:o a=none) (au:g=u.length) (bh:g≤C∧C≤maxLen) (r:Rep.rels (Zd .u64) o cs0 u) {c1:List Value} {v:Nat} (D:Rep.rel Zx o c1 v) {c2:List Value} {q:Int} (p2:Rep.rel (Zd .u64) o c2 q) {z:Bool×(List Int)} (H:ZVi u v q=some z):RetL Tryz.prog 176 #[.slice (some ⟨a,off0,none⟩) g C,Zx.val c1,(Zd .u64).val c2] R o [a] (fun y v' w'=>(∃ r0,y=Zmd.val r0∧Zmd.rel v' r0 z.1)∧v' a=none∧∃ cs,w'.heap[a]? = some (.cells (pre0++cs++post0).toArray E (0,0))∧g=z.2.length∧Rep.rels (Zd .u64) v' cs z.2):=by
 obtain ⟨q1,V,W,rfl⟩:=Zqa D;obtain ⟨rfl,r4⟩:=p2;refine Zds (K:=79) (args:=[.slice (some ⟨a,off0,none⟩) (g) C,.slice q1 V W,.int .u64 q]) hv bf bg Tryz.func176 rfl rfl zl fun f S=>?_;unfold ZVi at H;refine sr (mw S rfl fun f S=>oe (Zm fun _ bi=>bO H fun J bj H=>bO H fun cF av H=>Zv (mv S rfl fun f S=>ov S rfl (Zka S (ZK D) rfl rfl ZC) fun f S=>ov S rfl (Zg S rfl rfl (ZZa bj)) fun f S=>?_)));obtain ⟨aH,aQ⟩:∃ c:List Value,c=(List.replicate (J).toNat [.int .u64 0]).flatten:=⟨_,rfl⟩;obtain ⟨aR,w,bk,S⟩:=Zyi ZPe S (l:=J) (c:=J) (ZUa av).1 (ZUa av).2.1 (ZUa av).2.2.1 (ZUa av).2.2.2 aQ;have bm:Rep.rels (Zd .u64) o aH (List.replicate (J).toNat (0:Int)):=by rw [aQ];exact ZIe (show Rep.rel (Zd .u64) _ [.int .u64 0] _ from (ZD (by decide))) _
 refine ZSb wn rfl zl (bk rfl rfl) S fun f S=>mw S rfl fun f S=>Zs (Zh (bi _ _ (sr (mw S rfl fun f S=>oe (Zm fun _ bn=>sr (mv S rfl fun f S=>ov S rfl (Zka S (ZK D) rfl rfl ZC) fun f S=>mv S rfl fun f S=>oe ?_))))));obtain ⟨bo,bp,bq⟩:=ZG H;refine ZBa (fun f w=>∃ L b aI s G h X,(L,b)=bo∧Zb.le o X∧St 79 ⟨R,[a]⟩ o [(0,.slice (some ⟨a,off0,none⟩) (g) C),(1,.slice q1 V W),(7,.slice (mkA aI) s G),(8,.int .u64 b)] [Loc.box a E (pre0++cs0++post0),Loc.own aI 148 1 s G h] X f w∧Rep.rels (Zd .u64) X h L∧s=L.length∧inR .u64 b) (fun _ br=>?_) ?_
 ·have H:=bp;refine wp_block ?_;obtain ⟨cG,bs,bt⟩:=ZG H;have S:=S.reorder (ℓ':=[Loc.box a E (pre0++cs0++post0),Loc.own (some aR) 148 1 ((J).toNat) (J).toNat aH]) [1,0] rfl (by decide);refine ZTb bs (fun bu f w=>∃ Y ag m aw M Z I ax,(Y,ag,m)=bu∧Zb.le o ax∧St 79 ⟨R,[a]⟩ o [(0,.slice (some ⟨a,off0,none⟩) (g) C),(1,.slice q1 V W),(2,.int .u64 q),(7,.slice (mkA aw) M Z),(8,.int .u64 ag),(20,.slice q1 V W),(21,.int .i64 ((((Zc 18446744073709551616 v)).length:Int))),(22,.int .i64 m)] [Loc.box a E (pre0++cs0++post0),Loc.own aw 148 1 M Z I] ax f w∧Rep.rels (Zd .u64) ax I Y∧M=Y.length∧inR .u64 ag∧inR .i64 m) ⟨_,_,_,some aR,(J).toNat,(J).toNat,aH,_,rfl,(leR _),(S.fr' rfl),bm,(repN (x:=(0:Int))),(by decide),(by decide)⟩ ?_;rintro _ f w st ⟨Y,ag,m,aw,M,Z,I,ax,hq,ay,S,ah,ai,bv,cH⟩ H cI bw bx;subst hq;have r:=Z0 ay r;refine sr (ov S rfl (Zg S rfl rfl Zlc) fun f S=>oe (Zm fun _ bz=>?_));rcases ZM (decide (m<(((Zc 18446744073709551616 v)).length:Int))) with aj | aj
  ·have H:=ZL H aj;refine ZX S rfl aj (wp_skip (Zh (bz _ _ (Zm fun _ bA=>wp_block (Zm fun _ bB=>bO H fun aJ aK H=>Zv (mv S rfl fun f S=>?_))))));have D:=Zda ay D;obtain ⟨_,aS,aT,cJ,rfl,bC,bD⟩:=Zqb D (Zi aK).2.1;obtain ⟨rfl,bE⟩:=bD;refine ov S rfl (ZQ S rfl rfl ZC (Zi aK).1 (ltI (ZK D) (Zi aK).2.2.1)) fun f S=>ov S rfl (Zoa S rfl Z8 (S.view bC)) fun f S=>mw S rfl fun f S=>mw S rfl fun f S=>Zs (Zh (bB _ _ (Zm fun _ bG=>bO H fun aU bH H=>Zv (mv S rfl fun f S=>mv S rfl fun f S=>opc S rfl (Zaa S [.int .u64 aJ,.int .u64 q] ZLo rfl rfl) (Zko S.vin (show Rep.rel (Zd .u64) _ [.int .u64 aJ] aJ from (ZD bE)) (show Rep.rel (Zd .u64) _ [.int .u64 q] q from (ZD r4)) bH) ?_))));rintro _ aV f w aL ⟨cK,cL,rfl,bI,bJ⟩ S;have r:=Z0 aL r;have ah:=Z0 aL ah;obtain ⟨rfl,cM⟩:=bI;obtain ⟨rfl,cN⟩:=bJ;refine mv S rfl fun f S=>ov S rfl (ZFa S rfl rfl) fun f S=>ov S rfl (ZFa S rfl rfl) fun f S=>mw S rfl fun f S=>mw S rfl fun f S=>Zs (Zh (bG _ _ (sr (mw S rfl fun f S=>oe (Zm fun _ bK=>bO H fun N aW H=>bO H fun cO aa H=>Zv ?_)))));refine mv S rfl fun f S=>mv S rfl fun f S=>mv S rfl fun f S=>mv S rfl fun f S=>ov S rfl (ZLm S [.int .u64 (aU.2),.int .u64 ag,.int .u64 0] (Zhn Z3r aW) rfl rfl) fun f S=>mv S rfl fun f S=>ov S rfl (ZFa S rfl rfl) fun f S=>ov S rfl (ZFa S rfl rfl) fun f S=>?_
   obtain ⟨aX,rfl⟩:=ZJc S (j:=1) rfl (posN ai (Zi aa).2.2.2);have aY:=Zpa ah (Zi aa).2.1;obtain ⟨cP,bM⟩:∃ c,(List.take (Zd .u64).n (List.drop ((m).toNat*(Zd .u64).n) I))=c:=⟨_,rfl⟩;rw [bM] at aY;obtain ⟨rfl,cQ⟩:=aY;refine ov S rfl (ZQ S rfl rfl ZC (Zi aa).1 (ltI ai (Zi aa).2.2.1)) fun f S=>?_;obtain ⟨w,bP,S⟩:=Z1b S Z8 (off:=0+(m).toNat*1) (z:=.int .u64 (N.1)) (cs:=[.int .u64 (N.1)]) (ZKb rfl) rfl (i:=1) rfl (ZVd S (j:=1) rfl (ltN ai (Zi aa).2.2.2)) (by first | rfl | simp [plain]);have bQ:Rep.rels (Zd .u64) aV (List.take (0+(m).toNat*1) I++[Value.int IntKind.u64 (N.1)]++List.drop (0+(m).toNat*1+1) I) (Y.set (m).toNat N.1):=Zxd ah (Zi aa).2.2.2 (show Rep.rel (Zd .u64) aV [.int .u64 (N.1)] _ from (ZD (Zeo aW))) rfl rfl;have bR:M=(Y.set (m).toNat N.1).length:=Zce ai;refine Zpg wn rfl (bP rfl rfl) (mw S rfl fun f S=>Zs ?_);have S:=S.fr' (σ':=[(0,.slice (some ⟨a,off0,none⟩) (g) C),(1,.slice (some ⟨aS,aT,none⟩) V W),(2,.int .u64 q),(7,.slice (mkA (some aX)) (M) Z),(11,.int .u64 (aU.1)),(13,.int .u64 (N.2)),(20,.slice (some ⟨aS,aT,none⟩) V W),(21,.int .i64 ((((Zc 18446744073709551616 v)).length:Int))),(22,.int .i64 m)]) rfl
   refine Zh (bK _ _ (Zv (mv S rfl fun f S=>mv S rfl fun f S=>ov S rfl (Zg S rfl rfl Zfc) fun f S=>mw S rfl fun f S=>Zs (ZEb (Zh (bA _ _ (bO H fun cR aZ H=>Zv (ov S rfl (Zg S rfl rfl (ZZa aZ)) fun f S=>mv S rfl fun f S=>Zs ?_))))))));obtain rfl:=Zp H;refine bw _ rfl _ _ ⟨_,_,_,some aX,M,Z,(List.take (0+(m).toNat*1) I++[Value.int IntKind.u64 (N.1)]++List.drop (0+(m).toNat*1+1) I),_,rfl,(leT ay aL),(S.fr' rfl),bQ,bR,(Zsa _ _),(ZCa aZ).2⟩
  have H:=ZN H aj;refine ZR S rfl aj (wp_exit (Z2 ?_));obtain rfl:=Zp H;have hq:=bx _ rfl;subst hq;have H:=bt;refine Z2 (Zjb ?_);obtain rfl:=Zp H;refine Zh (br _ _ ⟨_,_,aw,M,Z,I,_,rfl,(leT (leR _) ay),(S.fr' rfl),ah,ai,bv⟩)
 rintro f w ⟨L,b,aI,s,G,h,X,hq,a0,S,a1,az,bS⟩;subst hq;have H:=bq;have r:=Z0 a0 r;refine Zh (bn _ _ (Zm fun _ bT=>bO H fun cS ab H=>Zv (mv S rfl fun f S=>mv S rfl fun f S=>?_)));have D:=Zda a0 D;refine ov S rfl (Zka S (ZK D) rfl rfl ZC) fun f S=>mv S rfl fun f S=>?_;obtain ⟨ac,rfl⟩:=ZJc S (j:=1) rfl (posN az (Zi ab).2.2.2);have a2:=Zpa a1 (Zi ab).2.1;obtain ⟨cT,bU⟩:∃ c,(List.take (Zd .u64).n (List.drop (((((Zc 18446744073709551616 v)).length:Int)).toNat*(Zd .u64).n) h))=c:=⟨_,rfl⟩;rw [bU] at a2;obtain ⟨rfl,cU⟩:=a2;refine ov S rfl (ZQ S rfl rfl ZC (Zi ab).1 (ltI az (Zi ab).2.2.1)) fun f S=>?_;obtain ⟨w,bV,S⟩:=Z1b S Z8 (off:=0+((((Zc 18446744073709551616 v)).length:Int)).toNat*1) (z:=.int .u64 b) (cs:=[.int .u64 b]) (ZKb rfl) rfl (i:=1) rfl (ZVd S (j:=1) rfl (ltN az (Zi ab).2.2.2)) (by first | rfl | simp [plain]);have p:Rep.rels (Zd .u64) X (List.take (0+((((Zc 18446744073709551616 v)).length:Int)).toNat*1) h++[Value.int IntKind.u64 (b)]++List.drop (0+((((Zc 18446744073709551616 v)).length:Int)).toNat*1+1) h) (L.set ((((Zc 18446744073709551616 v)).length:Int)).toNat b):=Zxd a1 (Zi ab).2.2.2 (show Rep.rel (Zd .u64) X [.int .u64 b] _ from (ZD bS)) rfl rfl
 have aM:s=(L.set ((((Zc 18446744073709551616 v)).length:Int)).toNat b).length:=Zce az;refine Zpg wn rfl (bV rfl rfl) (Zs (Zh (bT _ _ (Zm fun _ bW=>Zm fun _ bX=>bO H fun cV bY H=>bO H fun cW bZ H=>bO H fun b1 b2 H=>Zv (mv S rfl fun f S=>?_)))));have p0s120:=r;have h69s120:=p;have b3:=S.vst.le;obtain ⟨cX,cY,a3,t,S,b4,b5,b6,T⟩:=S.lendSeg (i:=0) (A:=(Zd .u64)) (l:=u) (ℓ':=[Loc.own (some ac) 148 1 s G ((List.take (0+((((Zc 18446744073709551616 v)).length:Int)).toNat*1) h++[Value.int IntKind.u64 (b)]++List.drop (0+((((Zc 18446744073709551616 v)).length:Int)).toNat*1+1) h))]) rfl rfl aG r au bh;have p:=Z0 a3 p;refine opc S rfl (Zaa S [.slice (some ⟨a,off0,none⟩) (g) C] Zuf rfl rfl) (ZBf S.vin (show Rep.rel (Zw (Zd .u64)) _ [.slice (some ⟨a,off0,none⟩) (g) C] u from T) bY) ?_;rintro _ cZ f w aA ⟨c0,rfl,P⟩ S;have p:=Z0 aA p;have t:=aA _ _ t;obtain ⟨b7,b8,b9,rfl⟩:=Zqa P;refine mv S rfl fun f S=>?_;have T:=Zda aA T;have h128s137:=T;have h69s137:=p;have h133s137:=P;have h124s137:=t;have ca:=S.vst.le;obtain ⟨c3,c4,aB,ak,S,cb,cc,cd,ce⟩:=S.lendSlice (i:=0) (A:=(Zd .u64)) (l:=(L.set ((((Zc 18446744073709551616 v)).length:Int)).toNat b)) (ℓ':=[]) rfl rfl rfl p aM
 have t:=aB _ _ t;refine opc S rfl (Zaa S [.slice (mkA (some ac)) (s) G] Zuf rfl rfl) (ZBf S.vin (show Rep.rel (Zw (Zd .u64)) _ [.slice (mkA (some ac)) (s) G] ((L.set ((((Zc 18446744073709551616 v)).length:Int)).toNat b)) from ce) bZ) ?_;rintro _ c5 f w al ⟨c6,rfl,a4⟩ S;have t:=al _ _ t;have ak:=al _ _ ak;obtain ⟨cg,ch,ci,rfl⟩:=Zqa a4;have P:=Zda (leT aB al) P;refine opc S rfl (Zaa S [.slice b7 b8 b9,.slice cg ch ci] Zmq rfl rfl) (cmp_c S.vin P a4 b2) ?_;rintro _ c7 f w am ⟨c8,rfl,cj⟩ S;have t:=am _ _ t;have ak:=am _ _ ak;obtain ⟨rfl,c9⟩:=cj;refine ov S rfl (Zg S rfl rfl Zlc) fun f S=>Zs ?_;obtain ⟨da,an,S⟩:=S.takeBack (e:=Loc.own (some ac) 148 1 s G ((List.take (0+((((Zc 18446744073709551616 v)).length:Int)).toNat*1) h++[Value.int IntKind.u64 (b)]++List.drop (0+((((Zc 18446744073709551616 v)).length:Int)).toNat*1+1) h))) (leT (leT aB al) am) rfl ak cb cc ca cd;have T:=Zda (leT (leT aB al) am) T;have T:=Zda an h128s137;have p:=Z0 an h69s137;have P:=Zda am P;have P:=Zda an h133s137;have t:=an _ _ h124s137;obtain ⟨a5,a6,S⟩:=S.takeBack (e:=Loc.box a E (pre0++cs0++post0)) (leT (leT a3 aA) an) rfl t b4 b5 b3 b6;have r:=Z0 a6 p0s120
 have p:=Z0 a6 h69s120;refine Zh (bX _ _ ?_);rcases ZM (decide (b1<(0:Int))) with ao | ao
 ·have H:=ZL H ao;refine ZX S rfl ao (sr (mw S rfl fun f S=>oe (wp_ret (Z9a ?_))));obtain rfl:=Zp H;refine ZLn S (ZVa rfl (ZW S rfl)) ⟨⟨[.bool false],rfl,ZYq⟩,(S.boxAt (j:=0) rfl).2,_,(S.boxAt (j:=0) rfl).1,au,r⟩
 have H:=ZN H ao;refine ZR S rfl ao (wp_skip (Zh (bW _ _ (sr (mw S rfl fun f S=>oe (Zm fun _ ck=>sr (mv S rfl fun f S=>ov S rfl (Zka S au rfl rfl ZC) fun f S=>mv S rfl fun f S=>oe ?_)))))));obtain ⟨cl,cm,cn⟩:=ZG H;refine ZBa (fun f w=>∃ aC aN aD,aC=cl∧Zb.le a5 aD∧St 79 ⟨R,[a]⟩ o [] [Loc.box a E (pre0++aN++post0)] aD f w∧Rep.rels (Zd .u64) aD aN aC∧g=aC.length) (fun _ co=>?_) ?_
 ·have H:=cm;refine wp_block ?_;obtain ⟨db,cp,cq⟩:=ZG H;refine ZTb cp (fun cr f w=>∃ ad ap d B ae,(ad,ap,d)=cr∧Zb.le a5 ae∧St 79 ⟨R,[a]⟩ o [(0,.slice (some ⟨a,off0,none⟩) (g) C),(7,.slice (mkA (some ac)) (s) G),(14,.int .u64 ap),(58,.int .i64 ((u.length:Int))),(59,.int .i64 d)] [Loc.box a E (pre0++B++post0),Loc.own (some ac) 148 1 s G ((List.take (0+((((Zc 18446744073709551616 v)).length:Int)).toNat*1) h++[Value.int IntKind.u64 (b)]++List.drop (0+((((Zc 18446744073709551616 v)).length:Int)).toNat*1+1) h))] ae f w∧Rep.rels (Zd .u64) ae B ad∧g=ad.length∧inR .u64 ap∧inR .i64 d) ⟨_,_,_,cs0,_,rfl,(leR _),(S.fr' rfl),r,au,(by decide),(by decide)⟩ ?_;rintro _ f w st ⟨ad,ap,d,B,ae,hq,aO,S,af,Q,dc,dd⟩ H de ct cu;subst hq;have p:=Z0 aO p;refine sr (ov S rfl (Zg S rfl rfl Zlc) fun f S=>oe (Zm fun _ cv=>?_));rcases ZM (decide (d<(u.length:Int))) with aq | aq
  ·have H:=ZL H aq;refine ZX S rfl aq (wp_skip (Zh (cv _ _ (Zm fun _ cw=>wp_block (sr (mv S rfl fun f S=>mw S rfl fun f S=>oe (bO H fun a7 aE H=>bO H fun a8 aF H=>bO H fun U aP H=>bO H fun df ar H=>Zje (fl:=#[true,true,true,true,true,true,true,true,true,true,true,false,true,true,true,true,false,false]) ZTf (by kernel_rfl) S ?_)))))));intro ops O F w S;refine rfa O F 0 rfl rfl S (ZA S rfl) fun f S=>rfa O F 1 rfl rfl S (ZA S rfl) fun f S=>rfa O F 2 rfl rfl S (ZA S rfl) fun f S=>rfa O F 3 rfl rfl S (ZA S rfl) fun f S=>?_;have a9:=Zpa af (Zi aE).2.1;obtain ⟨dg,ba⟩:∃ c,(List.take (Zd .u64).n (List.drop ((d).toNat*(Zd .u64).n) B))=c:=⟨_,rfl⟩;rw [ba] at a9;obtain ⟨rfl,cx⟩:=a9;refine rfa O F 4 rfl rfl S (ZQ S rfl rfl ZC (Zi aE).1 (ltI Q (Zi aE).2.2.1)) fun f S=>rfa O F 5 rfl rfl S (Zoa S rfl Z8 (ZGi S (j:=0) rfl aG (ZDe af Q) ba (ltN Q (Zi aE).2.2.2) 0 [.int .u64 a7] rfl zl)) fun f S=>rfa O F 6 rfl rfl S (ZA S rfl) fun f S=>rfa O F 7 rfl rfl S (ZA S rfl) fun f S=>?_;have bb:=Zpa p (Zi aF).2.1;obtain ⟨dh,bc⟩:∃ c,(List.take (Zd .u64).n (List.drop ((d).toNat*(Zd .u64).n) (List.take (0+((((Zc 18446744073709551616 v)).length:Int)).toNat*1) h++[Value.int IntKind.u64 (b)]++List.drop (0+((((Zc 18446744073709551616 v)).length:Int)).toNat*1+1) h)))=c:=⟨_,rfl⟩
   rw [bc] at bb;obtain ⟨rfl,cy⟩:=bb;refine rfa O F 8 rfl rfl S (ZQ S rfl rfl ZC (Zi aF).1 (ltI aM (Zi aF).2.2.1)) fun f S=>rfa O F 9 rfl rfl S (Zoa S rfl Z8 (Zjd S (j:=1) rfl bc (ltN aM (Zi aF).2.2.2) 0 [.int .u64 a8] rfl zl)) fun f S=>rfa O F 10 rfl rfl S (ZA S rfl) fun f S=>go1 O F 11 (nva [5,9,10,4,8,2,3,6,7] [0,1] O rfl rfl S (ZLm S [.int .u64 a7,.int .u64 a8,.int .u64 ap] (Zdr Zjy cx cy aP) rfl rfl) fun f S=>⟨(py S rfl rfl (ZA S rfl) (py S rfl rfl (ZA S rfl) Zpc)),rfa O F 12 rfl rfl S (ZA S rfl) fun f S=>rfa O F 13 rfl rfl S (ZFa S rfl rfl) fun f S=>rfa O F 14 rfl rfl S (ZFa S rfl rfl) fun f S=>?_⟩);have bd:=Zpa af (Zi ar).2.1;obtain ⟨di,cz⟩:∃ c,(List.take (Zd .u64).n (List.drop ((d).toNat*(Zd .u64).n) B))=c:=⟨_,rfl⟩;rw [cz] at bd;obtain ⟨rfl,dj⟩:=bd;refine rfa O F 15 rfl rfl S (ZQ S rfl rfl ZC (Zi ar).1 (ltI Q (Zi ar).2.2.1)) fun f S=>go1 O F 16 ?_;obtain ⟨w,cA,S⟩:=ZAt S (k:=(d).toNat) Z8 (z:=.int .u64 (U.1)) (c:=[.int .u64 (U.1)]) (ZKb rfl) rfl (i:=0) rfl aG (ZDe af Q) (ltN Q (Zi ar).2.2.2) rfl (by first | rfl | simp [plain]);have cB:Rep.rels (Zd .u64) ae (List.take (0+(d).toNat*1) B++[Value.int IntKind.u64 (U.1)]++List.drop (0+(d).toNat*1+1) B) (ad.set (d).toNat U.1):=Zxd af (Zi ar).2.2.2 (show Rep.rel (Zd .u64) ae [.int .u64 (U.1)] _ from (ZD (ZXr aP))) rfl rfl
   have cC:g=(ad.set (d).toNat U.1).length:=Zce Q;refine nxs [0,1,2,3,4,5,6,7,8,9,10,11,12,13,15] [14] O rfl rfl (cA rfl rfl) (⟨(py S rfl rfl (ZFa S rfl rfl) Zpc),go1 O F 17 (nva [0,1,2,3,4,5,6,7,8,9,10,11,12,13,14,15,16] [] O rfl rfl S (Z6c S rfl) fun f S=>⟨Zpc,Z0e O F (ZEb (Zh (cw _ _ (bO H fun dk be H=>Zv (ov S rfl (Zg S rfl rfl (ZZa be)) fun f S=>mv S rfl fun f S=>Zs ?_)))))⟩)⟩);obtain rfl:=Zp H;refine ct _ rfl _ _ ⟨_,_,_,(List.take (0+(d).toNat*1) B++[Value.int IntKind.u64 (U.1)]++List.drop (0+(d).toNat*1+1) B),_,rfl,aO,(S.fr' rfl),cB,cC,(ZEr aP),(ZCa be).2⟩
  have H:=ZN H aq;refine ZR S rfl aq (wp_exit (Z2 ?_));obtain rfl:=Zp H;have hq:=cu _ rfl;subst hq;have H:=cq;refine Z2 (Zjb ?_);obtain rfl:=Zp H;have S:=S.reorder (ℓ':=[Loc.box a E (pre0++B++post0)]) [0] rfl (by decide);refine Zh (co _ _ ⟨_,B,_,rfl,(leT (leR _) aO),(S.fr' rfl),af,Q⟩)
 rintro f w ⟨aC,aN,aD,hq,dl,S,cD,cE⟩;subst hq;have H:=cn;refine Zh (ck _ _ (sr (mw S rfl fun f S=>oe (wp_ret ?_))));obtain rfl:=Zp H;refine ZLn S (ZVa rfl (ZW S rfl)) ⟨⟨[.bool true],rfl,ZYq⟩,(S.boxAt (j:=0) rfl).2,_,(S.boxAt (j:=0) rfl).1,cE,cD⟩
theorem take_c {d:World} {a:Zb} (hv:VIn a d) {b off0 c e:Nat} {f:TypeId} {pre0 cs0 post0:List Value} {u:(List Int)} (l:d.heap[b]? = some (.cells (pre0++cs0++post0).toArray f (0,0))) (m:off0=pre0.length) (n:a b=none) (o:c=u.length) (p:c≤e∧e≤maxLen) (g:Rep.rels (Zd .u64) a cs0 u) {h:List Value} {v:Nat} (r:Rep.rel Zx a h v) {i:List Value} {q:Int} (j:Rep.rel (Zd .u64) a i q) {z:Bool×(List Int)} (hm:Zwh u v q=some z) :
  RetL Tryz.prog 176 #[Value.slice (some ⟨b,off0,none⟩) c e,Zx.val h,(Zd .u64).val i] d a [b] (fun y v' w'=>(∃ k,y=Zmd.val k∧Zmd.rel v' k z.1)∧v' b=none∧∃ cs,w'.heap[b]? = some (.cells (pre0++cs++post0).toArray f (0,0))∧c=z.2.length∧Rep.rels (Zd .u64) v' cs z.2) :=
 take_w hv l m n o p g r j (Zux (ZIn g) j.2 hm)
theorem digit_w {x:World} {m:Zb} (hv:VIn m x) {a off0 e h:Nat} {A:TypeId} {pre0 cs0 post0:List Value} {u:(List Int)} (a0:x.heap[a]? = some (.cells (pre0++cs0++post0).toArray A (0,0))) (G:off0=pre0.length) (a1:m a=none) (k:e=u.length) (a2:e≤h∧h≤maxLen) (d:Rep.rels (Zd .u64) m cs0 u) {c1:List Value} {v:Nat} (g:Rep.rel Zx m c1 v) {z:Int×(List Int)} (H:ZFj u v=some z):RetL Tryz.prog 144 #[.slice (some ⟨a,off0,none⟩) e h,Zx.val c1] x m [a] (fun y v' w'=>(∃ r0,y=(Zd .u64).val r0∧(Zd .u64).rel v' r0 z.1)∧v' a=none∧∃ cs,w'.heap[a]? = some (.cells (pre0++cs++post0).toArray A (0,0))∧e=z.2.length∧Rep.rels (Zd .u64) v' cs z.2):=by
 obtain ⟨q1,o,p,rfl⟩:=Zqa g;refine Zds (K:=90) (args:=[.slice (some ⟨a,off0,none⟩) (e) h,.slice q1 o p]) hv a0 a1 Tryz.func144 rfl rfl zl fun f S=>?_;unfold ZFj at H;refine sr (mw S rfl fun f S=>oe (sr (mv S rfl fun f S=>ov S rfl (Zka S (ZK g) rfl rfl ZC) fun f S=>mw S rfl fun f S=>oe (sr (mw S rfl fun f S=>oe (Zm fun _ a3=>Zm fun _ a4=>bO H fun aE V H=>?_))))));refine bO H fun ck a5 H=>bO H fun a6 aj H=>Zje (fl:=#[true,true,true,true,true,true,true,true,true,true]) ZTf (by kernel_rfl) S ?_;intro ops O F w S;refine rfa O F 0 rfl rfl S (ZA S rfl) fun f S=>rfa O F 1 rfl rfl S (ZA S rfl) fun f S=>?_;have aF:=Zpa d (Zi V).2.1;obtain ⟨cl,aG⟩:∃ c,(List.take (Zd .u64).n (List.drop (((((Zc 18446744073709551616 v)).length:Int)).toNat*(Zd .u64).n) cs0))=c:=⟨_,rfl⟩;rw [aG] at aF;obtain ⟨rfl,cm⟩:=aF;refine rfa O F 2 rfl rfl S (ZQ S rfl rfl ZC (Zi V).1 (ltI k (Zi V).2.2.1)) fun f S=>rfa O F 3 rfl rfl S (Zoa S rfl Z8 (ZGi S (j:=0) rfl G (ZDe d k) aG (ltN k (Zi V).2.2.2) 0 [.int .u64 aE] rfl zl)) fun f S=>rfa O F 4 rfl rfl S (ZA S rfl) fun f S=>rfa O F 5 rfl rfl S (ZA S rfl) fun f S=>rfa O F 6 rfl rfl S (Zg S rfl rfl (ZIa a5)) fun f S=>?_;obtain ⟨_,r,s,cn,rfl,a7,a8⟩:=Zqb g (Zi aj).2.1
 obtain ⟨rfl,co⟩:=a8;refine rfa O F 7 rfl rfl S (ZQ S rfl rfl ZC (Zi aj).1 (ltI (ZK g) (Zi aj).2.2.1)) fun f S=>rfa O F 8 rfl rfl S (Zoa S rfl Z8 (S.view a7)) fun f S=>rfa O F 9 rfl rfl S (Zg S rfl rfl Zlc) fun f S=>Z0e O F (Zh (a4 _ _ ?_));obtain ⟨a9,ba,bb⟩:=ZG H;refine ZBa (fun f w=>∃ W I,W=a9∧Zb.le m I∧St 90 ⟨x,[a]⟩ m [(0,.slice (some ⟨a,off0,none⟩) (e) h),(1,.slice (some ⟨r,s,none⟩) o p),(6,.int .u64 W)] [Loc.box a A (pre0++cs0++post0)] I f w∧inR .u64 W) (fun _ aH=>?_) ?_
 ·have H:=ba;rcases ZM (decide (aE<a6)) with J | J
  ·have H:=ZL H J;refine ZX S rfl J (sr (mw S rfl fun f S=>oe (Zm fun _ bc=>bO H fun X Y H=>bO H fun bd be H=>bO H fun Z aa H=>bO H fun cp bf H=>bO H fun ak al H=>bO H fun aI bg H=>Zje (fl:=#[true,true,true,true,true,true,true,true,true,true,true,true,true,true,false,true,true,true,false,false]) ZTf (by kernel_rfl) S ?_)));intro ops O F w S;refine rfa O F 0 rfl rfl S (ZA S rfl) fun f S=>rfa O F 1 rfl rfl S (ZA S rfl) fun f S=>?_;have aJ:=Zpa d (Zi Y).2.1;obtain ⟨cq,aK⟩:∃ c,(List.take (Zd .u64).n (List.drop (((((Zc 18446744073709551616 v)).length:Int)).toNat*(Zd .u64).n) cs0))=c:=⟨_,rfl⟩;rw [aK] at aJ;obtain ⟨rfl,bh⟩:=aJ;refine rfa O F 2 rfl rfl S (ZQ S rfl rfl ZC (Zi Y).1 (ltI k (Zi Y).2.2.1)) fun f S=>rfa O F 3 rfl rfl S (Zoa S rfl Z8 (ZGi S (j:=0) rfl G (ZDe d k) aK (ltN k (Zi Y).2.2.2) 0 [.int .u64 X] rfl zl)) fun f S=>rfa O F 4 rfl rfl S (ZA S rfl) fun f S=>rfa O F 5 rfl rfl S (ZA S rfl) fun f S=>rfa O F 6 rfl rfl S (Zg S rfl rfl (ZIa be)) fun f S=>?_;have aL:=Zpa d (Zi aa).2.1;obtain ⟨cr,aM⟩:∃ c,(List.take (Zd .u64).n (List.drop ((bd).toNat*(Zd .u64).n) cs0))=c:=⟨_,rfl⟩;rw [aM] at aL;obtain ⟨rfl,bi⟩:=aL;refine rfa O F 7 rfl rfl S (ZQ S rfl rfl ZC (Zi aa).1 (ltI k (Zi aa).2.2.1)) fun f S=>rfa O F 8 rfl rfl S (Zoa S rfl Z8 (ZGi S (j:=0) rfl G (ZDe d k) aM (ltN k (Zi aa).2.2.2) 0 [.int .u64 Z] rfl zl)) fun f S=>rfa O F 9 rfl rfl S (ZA S rfl) fun f S=>rfa O F 10 rfl rfl S (ZA S rfl) fun f S=>rfa O F 11 rfl rfl S (Zg S rfl rfl (ZIa bf)) fun f S=>?_
   obtain ⟨ct,am,bj⟩:=ZHg g (Zi al).2.1;obtain ⟨rfl,bk⟩:=bj;refine rfa O F 12 rfl rfl S (ZQ S rfl rfl ZC (Zi al).1 (ltI (ZK g) (Zi al).2.2.1)) fun f S=>rfa O F 13 rfl rfl S (Zoa S rfl Z8 (S.view am)) fun f S=>go1 O F 14 (nxc [3,8,13,2,7,12,0,1,4,6,9,11,5,10] [] O rfl S rfl (Zaa S [.int .u64 X,.int .u64 Z,.int .u64 ak] ZSs rfl rfl) (ZXq S.vin (show Rep.rel (Zd .u64) _ [.int .u64 X] X from (ZD bh)) (show Rep.rel (Zd .u64) _ [.int .u64 Z] Z from (ZD bi)) (show Rep.rel (Zd .u64) _ [.int .u64 ak] ak from (ZD bk)) bg) ?_);rintro _ aN f w ab ⟨cu,cv,rfl,bm,bn⟩ S;have d:=Z0 ab d;have am:=Atm ab am;obtain ⟨rfl,bo⟩:=bm;obtain ⟨rfl,bp⟩:=bn;refine ⟨Zpc,rfa O F 15 rfl rfl S (ZA S rfl) fun f S=>rfa O F 16 rfl rfl S (ZFa S rfl rfl) fun f S=>rfa O F 17 rfl rfl S (ZFa S rfl rfl) fun f S=>go1 O F 18 (nva [0,1,2,3,4,5,6,7,8,9,10,11,12,13,14,15,16] [17] O rfl rfl S (Z6c S rfl) fun f S=>⟨(py S rfl rfl (ZFa S rfl rfl) Zpc),go1 O F 19 (nva [0,1,2,3,4,5,6,7,8,9,10,11,12,13,14,15,16,17,18] [] O rfl rfl S (Z6c S rfl) fun f S=>⟨Zpc,Z0e O F ?_⟩)⟩)⟩;have S:=S.fr' (σ':=[(0,.slice (some ⟨a,off0,none⟩) (e) h),(1,.slice (some ⟨r,s,none⟩) o p),(5,.int .i64 ((((Zc 18446744073709551616 v)).length:Int))),(6,.int .u64 (aI.1)),(7,.int .u64 (aI.2))]) rfl
   refine Zh (bc _ _ ?_);obtain ⟨bq,br,bs⟩:=ZG H;refine ZBa (fun f w=>∃ ac an,ac=bq∧Zb.le aN an∧St 90 ⟨x,[a]⟩ m [(0,.slice (some ⟨a,off0,none⟩) (e) h),(1,.slice (some ⟨r,s,none⟩) o p),(6,.int .u64 ac)] [Loc.box a A (pre0++cs0++post0)] an f w∧inR .u64 ac) (fun _ aO=>?_) ?_
   ·have H:=br;refine wp_block ?_;obtain ⟨cw,bt,aP⟩:=ZG H;refine ZTb bt (fun bu f w=>∃ q l ao,(q,l)=bu∧Zb.le aN ao∧St 90 ⟨x,[a]⟩ m [(0,.slice (some ⟨a,off0,none⟩) (e) h),(1,.slice (some ⟨r,s,none⟩) o p),(5,.int .i64 ((((Zc 18446744073709551616 v)).length:Int))),(6,.int .u64 q),(7,.int .u64 l)] [Loc.box a A (pre0++cs0++post0)] ao f w∧inR .u64 q∧inR .u64 l) ⟨_,_,_,rfl,(leR _),(S.fr' rfl),bo,bp⟩ ?_;rintro _ f w st ⟨q,l,ao,hq,L,S,aQ,cx⟩ H cy bv aR;subst hq;have d:=Z0 L d;refine wp_block (Zm fun _ bw=>bO H fun cz bx H=>bO H fun ap aq H=>bO H fun B bz H=>Zv (mv S rfl fun f S=>mv S rfl fun f S=>mv S rfl fun f S=>ov S rfl (Zg S rfl rfl (ZIa bx)) fun f S=>?_));have g:=Zda (leT ab L) g;obtain ⟨cA,ar,bA⟩:=ZHg g (Zi aq).2.1;obtain ⟨rfl,bB⟩:=bA;refine ov S rfl (ZQ S rfl rfl ZC (Zi aq).1 (ltI (ZK g) (Zi aq).2.2.1)) fun f S=>ov S rfl (Zoa S rfl Z8 (S.view ar)) fun f S=>opc S rfl (Zaa S [.int .u64 q,.int .u64 ap] ZLo rfl rfl) (Zko S.vin (show Rep.rel (Zd .u64) _ [.int .u64 q] q from (ZD aQ)) (show Rep.rel (Zd .u64) _ [.int .u64 ap] ap from (ZD bB)) bz) ?_;rintro _ bC f w E ⟨cB,cC,rfl,bD,bE⟩ S
    have d:=Z0 E d;have ar:=Atm E ar;obtain ⟨rfl,cD⟩:=bD;obtain ⟨rfl,cE⟩:=bE;refine mv S rfl fun f S=>ov S rfl (ZFa S rfl rfl) fun f S=>ov S rfl (ZFa S rfl rfl) fun f S=>mw S rfl fun f S=>mw S rfl fun f S=>Zs (Zh (bw _ _ (Zm fun _ bG=>Zm fun _ bH=>?_)));obtain ⟨bI,bJ,bK⟩:=ZG H;refine ZBa (fun f w=>∃ ad au,ad=bI∧Zb.le bC au∧St 90 ⟨x,[a]⟩ m [(0,.slice (some ⟨a,off0,none⟩) (e) h),(1,.slice (some ⟨r,s,none⟩) o p),(5,.int .i64 ((((Zc 18446744073709551616 v)).length:Int))),(6,.int .u64 q),(7,.int .u64 l),(67,.bool ad)] [Loc.box a A (pre0++cs0++post0)] au f w) (fun _ av=>?_) ?_
    ·have H:=bJ;refine Zv (mv S rfl fun f S=>mv S rfl fun f S=>ov S rfl (Zg S rfl rfl Zlc) fun f S=>mv S rfl fun f S=>?_);rcases ZM (decide (B.1<l)) with M | M
     ·have H:=ZL H M;have S:=S.bool (t:=54) rfl M;refine opn S rfl rfl rfl rfl fun f S=>opn S rfl rfl rfl rfl fun f S=>opn S rfl rfl rfl rfl fun f S=>opn S rfl rfl rfl rfl fun f S=>Zvf S (ZHe S rfl rfl rfl zl) rfl zl fun f S=>Zvf S (ZHe S rfl rfl rfl zl) rfl zl fun f S=>Zvf S (ZHe S rfl rfl rfl zl) rfl zl fun f S=>Zvf S (ZHe S rfl rfl rfl zl) rfl zl fun f S=>Zvf S (ZHe S rfl rfl rfl zl) rfl zl fun f S=>Zvf S (ZHe S rfl rfl rfl zl) rfl zl fun f S=>Zvf S (ZHe S rfl rfl rfl zl) rfl zl fun f S=>opn S rfl rfl rfl rfl fun f S=>ov S rfl (ZMb S (b:=true) rfl rfl) fun f S=>Zs ?_;have S:=S.fr' (σ':=[(0,.slice (some ⟨a,off0,none⟩) (e) h),(1,.slice (some ⟨r,s,none⟩) o p),(5,.int .i64 ((((Zc 18446744073709551616 v)).length:Int))),(6,.int .u64 q),(7,.int .u64 l),(55,undef),(56,undef),(57,undef),(58,undef),(59,undef),(60,undef),(61,undef),(62,undef),(63,undef),(64,undef),(65,undef),(66,undef),(67,.bool true)]) rfl;obtain rfl:=Zp H;refine Zh (av _ _ ⟨_,_,rfl,(leR _),(S.fr' rfl)⟩)
     have H:=ZN H M;have S:=S.bool (t:=54) rfl M;refine opy S rfl rfl rfl rfl (ZA S rfl) fun f S=>opy S rfl rfl rfl rfl (ZA S rfl) fun f S=>opy S rfl rfl rfl rfl (Zg S rfl rfl ZJe) fun f S=>opy S rfl rfl rfl rfl (ZA S rfl) fun f S=>?_;rcases ZM (B.1==l) with C | C
     ·have H:=ZL H C;have S:=S.bool (t:=57) rfl C;have S:=S.bool (t:=58) rfl C;refine bO H fun aw bM H=>bO H fun N ae H=>opy S rfl rfl rfl rfl (ZA S rfl) fun f S=>opy S rfl rfl rfl rfl (ZA S rfl) fun f S=>opy S rfl rfl rfl rfl (ZA S rfl) fun f S=>opy S rfl rfl rfl rfl (Zg S rfl rfl (ZIa bM)) fun f S=>?_;have aS:=Zpa d (Zi ae).2.1;obtain ⟨cF,aT⟩:∃ c,(List.take (Zd .u64).n (List.drop ((aw).toNat*(Zd .u64).n) cs0))=c:=⟨_,rfl⟩;rw [aT] at aS;obtain ⟨rfl,cG⟩:=aS;refine opy S rfl rfl rfl rfl (ZQ S rfl rfl ZC (Zi ae).1 (ltI k (Zi ae).2.2.1)) fun f S=>opy S rfl rfl rfl rfl (Zoa S rfl Z8 (ZGi S (j:=0) rfl G (ZDe d k) aT (ltN k (Zi ae).2.2.2) 0 [.int .u64 N] rfl zl)) fun f S=>opy S rfl rfl rfl rfl (Zg S rfl rfl Ztn) fun f S=>opy S rfl rfl rfl rfl (ZMb S (b:=true) rfl rfl) fun f S=>ov S rfl (ZMb S (b:=false) rfl rfl) fun f S=>Zs ?_;have S:=S.fr' (σ':=[(0,.slice (some ⟨a,off0,none⟩) (e) h),(1,.slice (some ⟨r,s,none⟩) o p),(5,.int .i64 ((((Zc 18446744073709551616 v)).length:Int))),(6,.int .u64 q),(7,.int .u64 l),(55,.int .u64 (B.1)),(56,.int .u64 l),(57,.bool true),(58,.bool true),(59,.int .u64 (B.2)),(60,.slice (some ⟨a,off0,none⟩) (e) h),(61,.int .i64 ((((Zc 18446744073709551616 v)).length:Int))),(62,.int .i64 aw),(63,.pointer (some ⟨a,off0+(aw).toNat*1,none⟩)),(64,.int .u64 N),(65,.bool (decide (B.2≤N))),(66,.bool (decide (B.2≤N))),(67,.bool (decide (B.2≤N)))]) rfl
      obtain rfl:=Zp H;refine Zh (av _ _ ⟨_,_,rfl,(leR _),(S.fr' rfl)⟩)
     have H:=ZN H C;have S:=S.bool (t:=57) rfl C;have S:=S.bool (t:=58) rfl C;refine opn S rfl rfl rfl rfl fun f S=>opn S rfl rfl rfl rfl fun f S=>opn S rfl rfl rfl rfl fun f S=>opn S rfl rfl rfl rfl fun f S=>opn S rfl rfl rfl rfl fun f S=>opn S rfl rfl rfl rfl fun f S=>opn S rfl rfl rfl rfl fun f S=>opy S rfl rfl rfl rfl (ZMb S (b:=false) rfl rfl) fun f S=>ov S rfl (ZMb S (b:=false) rfl rfl) fun f S=>Zs ?_;have S:=S.fr' (σ':=[(0,.slice (some ⟨a,off0,none⟩) (e) h),(1,.slice (some ⟨r,s,none⟩) o p),(5,.int .i64 ((((Zc 18446744073709551616 v)).length:Int))),(6,.int .u64 q),(7,.int .u64 l),(55,.int .u64 (B.1)),(56,.int .u64 l),(57,.bool false),(58,.bool false),(59,undef),(60,undef),(61,undef),(62,undef),(63,undef),(64,undef),(65,undef),(66,.bool false),(67,.bool false)]) rfl;obtain rfl:=Zp H;refine Zh (av _ _ ⟨_,_,rfl,(leR _),(S.fr' rfl)⟩)
    rintro f w ⟨ad,au,hq,P,S⟩;subst hq;have H:=bK;have d:=Z0 P d;refine Zh (bH _ _ ?_);rcases ZM (ad) with Q | Q
    ·have H:=ZL H Q;refine ZX S rfl Q (wp_exit (Z2 (Zem rfl ?_)));obtain rfl:=Zp H;have hq:=aR _ rfl;subst hq;have H:=aP;refine Z2 (Zjb ?_);obtain rfl:=Zp H;refine Zh (aO _ _ ⟨_,_,rfl,(leT (leT (leT (leR _) L) E) P),(S.fr' rfl),aQ⟩)
    have H:=ZN H Q;refine ZR S rfl Q (wp_skip (Zh (bG _ _ (sr (mv S rfl fun f S=>ov S rfl (Zg S rfl rfl Z1d) fun f S=>mw S rfl fun f S=>oe (sr (mw S rfl fun f S=>oe (Zm fun _ bP=>bO H fun cH bQ H=>bO H fun bR ax H=>?_))))))));refine bO H fun bS aU H=>Zv (mv S rfl fun f S=>mv S rfl fun f S=>mv S rfl fun f S=>ov S rfl (Zg S rfl rfl (ZIa bQ)) fun f S=>?_);have g:=Zda (leT E P) g;obtain ⟨cI,bT,bU⟩:=ZHg g (Zi ax).2.1;obtain ⟨rfl,cJ⟩:=bU;refine ov S rfl (ZQ S rfl rfl ZC (Zi ax).1 (ltI (ZK g) (Zi ax).2.2.1)) fun f S=>ov S rfl (Zoa S rfl Z8 (S.view bT)) fun f S=>ov S rfl (ZLm S [.int .u64 l,.int .u64 bR,.int .u64 0] (Zhn Z3r aU) rfl rfl) fun f S=>mv S rfl fun f S=>ov S rfl (ZFa S rfl rfl) fun f S=>ov S rfl (ZFa S rfl rfl) fun f S=>mw S rfl fun f S=>mw S rfl fun f S=>Zs (Zh (bP _ _ (sr (mv S rfl fun f S=>ov S rfl (Zg S rfl rfl Z5c) fun f S=>oe ?_))));rcases ZM (decide ((0:Int)<bS.2)) with R | R
    ·have H:=ZL H R;refine ZX S rfl R (wp_exit (Zem rfl ?_));obtain rfl:=Zp H;have hq:=aR _ rfl;subst hq;have H:=aP;refine Z2 (Zjb ?_);obtain rfl:=Zp H;refine Zh (aO _ _ ⟨_,_,rfl,(leT (leT (leT (leR _) L) E) P),(S.fr' rfl),(Zsa _ _)⟩)
    have H:=ZN H R;refine ZR S rfl R (wp_skip (ZEb ?_));obtain rfl:=Zp H;refine bv _ rfl _ _ ⟨_,_,_,rfl,(leT (leT L E) P),(S.fr' rfl),(Zsa _ _),(Zeo aU)⟩
   rintro f w ⟨ac,an,hq,aV,S,bV⟩;subst hq;have H:=bs;have d:=Z0 aV d;obtain rfl:=Zp H;refine Zh (aH _ _ ⟨_,_,rfl,(leT (leT (leR _) ab) aV),(S.fr' rfl),bV⟩)
  have H:=ZN H J;refine ZR S rfl J (wp_skip ?_);obtain rfl:=Zp H;refine Zh (aH _ _ ⟨_,_,rfl,(leR _),(S.fr' rfl),(by decide)⟩)
 rintro f w ⟨W,I,hq,aW,S,bW⟩;subst hq;have H:=bb;have d:=Z0 aW d;refine Zh (a3 _ _ (Zm fun _ bX=>?_));obtain ⟨bY,bZ,b1⟩:=ZG H;refine ZBa (fun f w=>∃ af T ay ag,(af,T)=bY∧Zb.le I ag∧St 90 ⟨x,[a]⟩ m [(6,.int .u64 T)] [Loc.box a A (pre0++ay++post0)] ag f w∧Rep.rels (Zd .u64) ag ay af∧e=af.length∧inR .u64 T) (fun _ b2=>?_) ?_
 ·have H:=bZ;refine wp_block ?_;obtain ⟨cK,b3,b4⟩:=ZG H;refine ZTb b3 (fun b5 f w=>∃ ah D az ai,(ah,D)=b5∧Zb.le I ai∧St 90 ⟨x,[a]⟩ m [(0,.slice (some ⟨a,off0,none⟩) (e) h),(1,.slice (some ⟨r,s,none⟩) o p),(6,.int .u64 D)] [Loc.box a A (pre0++az++post0)] ai f w∧Rep.rels (Zd .u64) ai az ah∧e=ah.length∧inR .u64 D) ⟨_,_,cs0,_,rfl,(leR _),(S.fr' rfl),d,k,bW⟩ ?_;rintro _ f w st ⟨ah,D,az,ai,hq,aA,S,aB,b6,aX⟩ H cL b7 b8;subst hq;refine Zm fun _ b9=>Zm fun _ ca=>bO H fun cb cc H=>Zv (mv S rfl fun f S=>mv S rfl fun f S=>mv S rfl fun f S=>?_);have g:=Zda (leT aW aA) g;refine Zfq S wn rfl zl (Zaa S [.slice (some ⟨a,off0,none⟩) (e) h,.slice (some ⟨r,s,none⟩) o p,.int .u64 D] k_en176 rfl rfl) (i:=0) rfl rfl (take_c S.vin (S.boxAt (j:=0) rfl).1 G (S.boxAt (j:=0) rfl).2 b6 a2 aB g (show Rep.rel (Zd .u64) _ [.int .u64 D] D from (ZD aX)) cc) ?_;rintro _ cM f w aC ⟨⟨cN,rfl,cd⟩,ce,aD,cg,aY,aZ⟩ hSf;have aB:=Z0 aC aB;have S:=hSf (Loc.box a A (pre0++aD++post0)) rfl cg ce;obtain rfl:=cd;refine ov S rfl (ZUs S rfl) fun f S=>Zs (Zh (ca _ _ ?_));rcases ZM (!(cb.1)) with U | U
  ·have H:=ZL H U;refine ZX S rfl U (wp_skip (Zh (b9 _ _ (wp_block (Zv (mv S rfl fun f S=>ov S rfl (Zg S rfl rfl Z1d) fun f S=>mw S rfl fun f S=>Zs (ZEb ?_)))))));obtain rfl:=Zp H;refine b7 _ rfl _ _ ⟨_,_,aD,_,rfl,(leT aA aC),(S.fr' rfl),aZ,aY,(Zsa _ _)⟩
  have H:=ZN H U;refine ZR S rfl U (wp_exit (Z2 ?_));obtain rfl:=Zp H;have hq:=b8 _ rfl;subst hq;have H:=b4;refine Z2 (Zjb ?_);obtain rfl:=Zp H;refine Zh (b2 _ _ ⟨_,_,aD,_,rfl,(leT (leT (leR _) aA) aC),(S.fr' rfl),aZ,aY,aX⟩)
 rintro f w ⟨af,T,ay,ag,hq,cO,S,ch,ci,cj⟩;subst hq;have H:=b1;refine Zh (bX _ _ (sr (mv S rfl fun f S=>mw S rfl fun f S=>oe (wp_ret ?_))));obtain rfl:=Zp H;refine ZLn S (ZVa rfl (ZW S rfl)) ⟨⟨[.int .u64 T],rfl,(ZD cj)⟩,(S.boxAt (j:=0) rfl).2,_,(S.boxAt (j:=0) rfl).1,ci,ch⟩
theorem digit_c {d:World} {b:Zb} (hv:VIn b d) {a off0 c e:Nat} {f:TypeId} {pre0 cs0 post0:List Value} {u:(List Int)} (j:d.heap[a]? = some (.cells (pre0++cs0++post0).toArray f (0,0))) (k:off0=pre0.length) (l:b a=none) (m:c=u.length) (n:c≤e∧e≤maxLen) (g:Rep.rels (Zd .u64) b cs0 u) {h:List Value} {v:Nat} (o:Rep.rel Zx b h v) {z:Int×(List Int)} (hm:Z4g u v=some z) :
  RetL Tryz.prog 144 #[Value.slice (some ⟨a,off0,none⟩) c e,Zx.val h] d b [a] (fun y v' w'=>(∃ i,y=(Zd .u64).val i∧(Zd .u64).rel v' i z.1)∧v' a=none∧∃ cs,w'.heap[a]? = some (.cells (pre0++cs++post0).toArray f (0,0))∧c=z.2.length∧Rep.rels (Zd .u64) v' cs z.2) :=
 digit_w hv j k l m n g o (ZNy (ZIn g) hm)
theorem left_w {I:World} {o:Zb} (hv:VIn o I) {c0:List Value} {a:Nat} (h:Rep.rel Zx o c0 a) {c1:List Value} {n:Int} (p1:Rep.rel (Zd .i64) o c1 n) {z:Nat} (H:ZNi a n=some z):Ret Tryz.prog 143 #[Zx.val c0,(Zd .i64).val c1] I o (fun y v'=>∃ r0,y=Zx.val r0∧Zx.rel v' r0 z):=by
 obtain ⟨W,J,L,rfl⟩:=Zqa h;obtain ⟨rfl,r4⟩:=p1;refine ZWb (K:=58) (args:=[.slice W J L,.int .i64 n]) hv Tryz.func143 rfl rfl zl fun f S=>?_;unfold ZNi at H;refine sr (mw S rfl fun f S=>oe (Zm fun _ av=>Zm fun _ aw=>?_));obtain ⟨ax,ay,az⟩:=ZG H;refine ZBa (fun f w=>∃ X v,X=ax∧Zb.le o v∧St 58 I o [(0,.slice W J L),(1,.int .i64 n),(14,.bool X)] [] v f w) (fun _ ag=>?_) ?_
 ·have H:=ay;refine Zv (mv S rfl fun f S=>ov S rfl (Zka S (ZK h) rfl rfl ZC) fun f S=>ov S rfl (Zg S rfl rfl ZJe) fun f S=>mv S rfl fun f S=>?_);rcases ZM (((((Zc 18446744073709551616 a)).length:Int))==(0:Int)) with M | M
  ·have H:=ZL H M;have S:=S.bool (t:=11) rfl M;refine opn S rfl rfl rfl rfl fun f S=>opn S rfl rfl rfl rfl fun f S=>ov S rfl (ZMb S (b:=true) rfl rfl) fun f S=>Zs ?_;obtain rfl:=Zp H;refine Zh (ag _ _ ⟨_,_,rfl,(leR _),(S.fr' rfl)⟩)
  have H:=ZN H M;have S:=S.bool (t:=11) rfl M;refine opy S rfl rfl rfl rfl (ZA S rfl) fun f S=>opy S rfl rfl rfl rfl (Zg S rfl rfl ZJe) fun f S=>ov S rfl (ZMb S (b:=false) rfl rfl) fun f S=>Zs ?_;obtain rfl:=Zp H;refine Zh (ag _ _ ⟨_,_,rfl,(leR _),(S.fr' rfl)⟩)
 rintro f w ⟨X,v,hq,ah,S⟩;subst hq;have H:=az;refine Zh (aw _ _ ?_);rcases ZM (X) with N | N
 ·have H:=ZL H N;refine ZX S rfl N (sr (mv S rfl fun f S=>mw S rfl fun f S=>oe (wp_ret (Z9a ?_))));obtain rfl:=Zp H;have h:=Zda ah h;refine ZMa S (ZVa rfl (ZW S rfl)) ⟨[.slice W J L],rfl,h⟩
 have H:=ZN H N;refine ZR S rfl N (wp_skip (Zh (av _ _ (Zm fun _ aA=>bO H fun bo aB H=>bO H fun bp aC H=>bO H fun B aD H=>bO H fun bq Y H=>Zv (mv S rfl fun f S=>?_)))));have h:=Zda ah h;refine ov S rfl (Zka S (ZK h) rfl rfl ZC) fun f S=>mv S rfl fun f S=>ov S rfl (Zg S rfl rfl (Zvc aB)) fun f S=>ov S rfl (Zg S rfl rfl (ZZa aC)) fun f S=>ov S rfl (Zg S rfl rfl (ZZa aD)) fun f S=>?_;obtain ⟨ai,aj⟩:∃ c:List Value,c=(List.replicate (B).toNat [.int .u64 0]).flatten:=⟨_,rfl⟩;obtain ⟨aE,w,aF,S⟩:=Zyi ZPe S (l:=B) (c:=B) (ZUa Y).1 (ZUa Y).2.1 (ZUa Y).2.2.1 (ZUa Y).2.2.2 aj;have aG:Rep.rels (Zd .u64) v ai (List.replicate (B).toNat (0:Int)):=by rw [aj];exact ZIe (show Rep.rel (Zd .u64) _ [.int .u64 0] _ from (ZD (by decide))) _
 refine ZSb wn rfl zl (aF rfl rfl) S fun f S=>mw S rfl fun f S=>Zs (Zh (aA _ _ (Zm fun _ aH=>sr (mv S rfl fun f S=>ov S rfl (Zka S (ZK h) rfl rfl ZC) fun f S=>mv S rfl fun f S=>oe ?_))));obtain ⟨aI,aJ,aK⟩:=ZG H;refine ZBa (fun f w=>∃ C P D Q ac Z,C=aI∧Zb.le v Z∧St 58 I o [(5,.slice (mkA P) D Q)] [Loc.own P 148 1 D Q ac] Z f w∧Rep.rels (Zd .u64) Z ac C∧D=C.length) (fun _ aL=>?_) ?_
 ·have H:=aJ;refine wp_block ?_;obtain ⟨br,aM,aN⟩:=ZG H;refine ZTb aM (fun aO f w=>∃ p E aa m G e q,(p,E)=aO∧Zb.le v q∧St 58 I o [(1,.int .i64 n),(5,.slice (mkA aa) m G),(23,.slice W J L),(24,.int .i64 ((((Zc 18446744073709551616 a)).length:Int))),(25,.int .i64 E)] [Loc.own aa 148 1 m G e] q f w∧Rep.rels (Zd .u64) q e p∧m=p.length∧inR .i64 E) ⟨_,_,some aE,(B).toNat,(B).toNat,ai,_,rfl,(leR _),(S.fr' rfl),aG,(repN (x:=(0:Int))),(by decide)⟩ ?_;rintro _ f w st ⟨p,E,aa,m,G,e,q,hq,ad,S,ab,s,bs⟩ H bt aP aQ;subst hq;refine sr (ov S rfl (Zg S rfl rfl Zlc) fun f S=>oe (Zm fun _ aR=>?_));rcases ZM (decide (E<(((Zc 18446744073709551616 a)).length:Int))) with R | R
  ·have H:=ZL H R;refine ZX S rfl R (wp_skip (Zh (aR _ _ (Zm fun _ aS=>wp_block (Zm fun _ aT=>bO H fun bu ae H=>Zv (mv S rfl fun f S=>?_))))));have h:=Zda ad h;obtain ⟨_,aU,aV,bv,rfl,aW,aX⟩:=Zqb h (Zi ae).2.1;obtain ⟨rfl,aY⟩:=aX;refine ov S rfl (ZQ S rfl rfl ZC (Zi ae).1 (ltI (ZK h) (Zi ae).2.2.1)) fun f S=>ov S rfl (Zoa S rfl Z8 (S.view aW)) fun f S=>mw S rfl fun f S=>mw S rfl fun f S=>Zs (Zh (aT _ _ (Zm fun _ aZ=>bO H fun bw a0 H=>bO H fun d a1 H=>bO H fun g T H=>bO H fun bx a2 H=>bO H fun k a3 H=>bO H fun bz U H=>Zje (fl:=#[true,true,true,true,true,true,true,true,true,true,true,true,true,false]) ZTf (by kernel_rfl) S ?_)));intro ops O F w S;refine rfa O F 0 rfl rfl S (ZA S rfl) fun f S=>rfa O F 1 rfl rfl S (ZA S rfl) fun f S=>rfa O F 2 rfl rfl S (ZA S rfl) fun f S=>rfa O F 3 rfl rfl S (Zg S rfl rfl (Zvc a0)) fun f S=>rfa O F 4 rfl rfl S (Zg S rfl rfl (ZZa a1)) fun f S=>?_;obtain ⟨ak,rfl⟩:=ZJc S (j:=0) rfl (posN s (Zi T).2.2.2);have al:=Zpa ab (Zi T).2.1;obtain ⟨bA,am⟩:∃ c,(List.take (Zd .u64).n (List.drop ((d).toNat*(Zd .u64).n) e))=c:=⟨_,rfl⟩;rw [am] at al;obtain ⟨rfl,bB⟩:=al;refine rfa O F 5 rfl rfl S (ZQ S rfl rfl ZC (Zi T).1 (ltI s (Zi T).2.2.1)) fun f S=>rfa O F 6 rfl rfl S (Zoa S rfl Z8 (Zjd S (j:=0) rfl am (ltN s (Zi T).2.2.2) 0 [.int .u64 g] rfl zl)) fun f S=>rfa O F 7 rfl rfl S (ZA S rfl) fun f S=>rfa O F 8 rfl rfl S (ZA S rfl) fun f S=>rfa O F 9 rfl rfl S (Zg S rfl rfl (Zrf a2)) fun f S=>rfa O F 10 rfl rfl S (Zg S rfl rfl (Zbi a3)) fun f S=>rfa O F 11 rfl rfl S (Zg S rfl rfl ZPl) fun f S=>?_
   have an:=Zpa ab (Zi U).2.1;obtain ⟨bC,a4⟩:∃ c,(List.take (Zd .u64).n (List.drop ((d).toNat*(Zd .u64).n) e))=c:=⟨_,rfl⟩;rw [a4] at an;obtain ⟨rfl,bD⟩:=an;refine rfa O F 12 rfl rfl S (ZQ S rfl rfl ZC (Zi U).1 (ltI s (Zi U).2.2.1)) fun f S=>go1 O F 13 ?_;obtain ⟨w,a5,S⟩:=Z1b S Z8 (off:=0+(d).toNat*1) (z:=.int .u64 (orI .u64 g k)) (cs:=[.int .u64 (orI .u64 g k)]) (ZKb rfl) rfl (i:=0) rfl (ZVd S (j:=0) rfl (ltN s (Zi U).2.2.2)) (by first | rfl | simp [plain]);have ao:Rep.rels (Zd .u64) q (List.take (0+(d).toNat*1) e++[Value.int IntKind.u64 (orI .u64 g k)]++List.drop (0+(d).toNat*1+1) e) (p.set (d).toNat (orI .u64 g k)):=Zxd ab (Zi U).2.2.2 (show Rep.rel (Zd .u64) q [.int .u64 (orI .u64 g k)] _ from (ZD (Zsa _ _))) rfl rfl;have af:m=(p.set (d).toNat (orI .u64 g k)).length:=Zce s;refine nxs [0,1,2,3,4,5,6,7,8,9,10,11,12] [] O rfl rfl (a5 rfl rfl) (⟨Zpc,Z0e O F (Zh (aZ _ _ (bO H fun bE a6 H=>bO H fun bG a7 H=>bO H fun r a8 H=>bO H fun bH a9 H=>bO H fun bI ba H=>bO H fun u ap H=>bO H fun bJ V H=>Zv (mv S rfl fun f S=>mv S rfl fun f S=>?_))))⟩);refine mv S rfl fun f S=>ov S rfl (Zg S rfl rfl (Zvc a6)) fun f S=>ov S rfl (Zg S rfl rfl (ZZa a7)) fun f S=>ov S rfl (Zg S rfl rfl (ZZa a8)) fun f S=>mv S rfl fun f S=>mv S rfl fun f S=>ov S rfl (Zg S rfl rfl (Zrf a9)) fun f S=>ov S rfl (Zg S rfl rfl (ZIa ba)) fun f S=>ov S rfl (Zg S rfl rfl (ZZb ap)) fun f S=>?_
   have aq:=Zpa ao (Zi V).2.1;obtain ⟨bK,bb⟩:∃ c,(List.take (Zd .u64).n (List.drop ((r).toNat*(Zd .u64).n) (List.take (0+(d).toNat*1) e++[Value.int IntKind.u64 (orI .u64 g k)]++List.drop (0+(d).toNat*1+1) e)))=c:=⟨_,rfl⟩;rw [bb] at aq;obtain ⟨rfl,bM⟩:=aq;refine ov S rfl (ZQ S rfl rfl ZC (Zi V).1 (ltI af (Zi V).2.2.1)) fun f S=>?_;obtain ⟨w,bc,S⟩:=Z1b S Z8 (off:=0+(r).toNat*1) (z:=.int .u64 u) (cs:=[.int .u64 u]) (ZKb rfl) rfl (i:=0) rfl (ZVd S (j:=0) rfl (ltN af (Zi V).2.2.2)) (by first | rfl | simp [plain]);have bd:Rep.rels (Zd .u64) q (List.take (0+(r).toNat*1) ((List.take (0+(d).toNat*1) e++[Value.int IntKind.u64 (orI .u64 g k)]++List.drop (0+(d).toNat*1+1) e))++[Value.int IntKind.u64 (u)]++List.drop (0+(r).toNat*1+1) ((List.take (0+(d).toNat*1) e++[Value.int IntKind.u64 (orI .u64 g k)]++List.drop (0+(d).toNat*1+1) e))) (((p.set (d).toNat (orI .u64 g k))).set (r).toNat u):=Zxd ao (Zi V).2.2.2 (show Rep.rel (Zd .u64) q [.int .u64 u] _ from (ZD (ZDg aY ap))) rfl rfl;have be:m=(((p.set (d).toNat (orI .u64 g k))).set (r).toNat u).length:=Zce af;refine Zpg wn rfl (bc rfl rfl) (Zs ?_);have S:=S.fr' (σ':=[(1,.int .i64 n),(5,.slice (mkA (some ak)) (m) G),(23,.slice (some ⟨aU,aV,none⟩) J L),(24,.int .i64 ((((Zc 18446744073709551616 a)).length:Int))),(25,.int .i64 E)]) rfl
   refine ZEb (Zh (aS _ _ (bO H fun bP ar H=>Zv (ov S rfl (Zg S rfl rfl (ZZa ar)) fun f S=>mv S rfl fun f S=>Zs ?_))));obtain rfl:=Zp H;refine aP _ rfl _ _ ⟨_,_,some ak,m,G,(List.take (0+(r).toNat*1) ((List.take (0+(d).toNat*1) e++[Value.int IntKind.u64 (orI .u64 g k)]++List.drop (0+(d).toNat*1+1) e))++[Value.int IntKind.u64 (u)]++List.drop (0+(r).toNat*1+1) ((List.take (0+(d).toNat*1) e++[Value.int IntKind.u64 (orI .u64 g k)]++List.drop (0+(d).toNat*1+1) e))),_,rfl,ad,(S.fr' rfl),bd,be,(ZCa ar).2⟩
  have H:=ZN H R;refine ZR S rfl R (wp_exit (Z2 ?_));obtain rfl:=Zp H;have hq:=aQ _ rfl;subst hq;have H:=aN;refine Z2 (Zjb ?_);obtain rfl:=Zp H;refine Zh (aL _ _ ⟨_,aa,m,G,e,_,rfl,(leT (leR _) ad),(S.fr' rfl),ab,s⟩)
 rintro f w ⟨C,P,D,Q,ac,Z,hq,bQ,S,bf,bg⟩;subst hq;have H:=aK;refine Zh (aH _ _ (Zm fun _ bh=>bO H fun bR bi H=>Zv (mv S rfl fun f S=>?_)));obtain ⟨bS,bT,S,bj⟩:=S.pubSlice (i:=0) (A:=(Zd .u64)) (l:=C) (ℓ':=[]) rfl rfl bg bf rfl;refine opc S rfl (Zaa S [.slice (mkA P) D Q] Zuf rfl rfl) (ZBf S.vin (show Rep.rel (Zw (Zd .u64)) _ [.slice (mkA P) D Q] C from bj) bi) ?_;rintro _ bU f w bV ⟨bW,rfl,au⟩ S;obtain ⟨bk,bm,bn,rfl⟩:=Zqa au;refine mw S rfl fun f S=>Zs (Zh (bh _ _ (wp_ret ?_)));obtain rfl:=Zp H;refine ZMa S (ZVa rfl (ZW S rfl)) ⟨[.slice bk bm bn],rfl,au⟩
theorem Z0p {c:World} {b:Zb} (hv:VIn b c) {d:List Value} {a:Nat} (g:Rep.rel Zx b d a) {e:List Value} {n:Int} (h:Rep.rel (Zd .i64) b e n) {z:Nat} (hm:ZTe a n=some z) :
  Ret Tryz.prog 143 #[Zx.val d,(Zd .i64).val e] c b (fun y v'=>∃ f,y=Zx.val f∧Zx.rel v' f z) :=
 left_w hv g h (ZOt hm)
theorem right_w {C:World} {g:Zb} (hv:VIn g C) {c0:List Value} {a:Nat} (h:Rep.rel Zx g c0 a) {c1:List Value} {n:Int} (p1:Rep.rel (Zd .i64) g c1 n) {z:Nat} (H:ZMi a n=some z):Ret Tryz.prog 145 #[Zx.val c0,(Zd .i64).val c1] C g (fun y v'=>∃ r0,y=Zx.val r0∧Zx.rel v' r0 z):=by
 obtain ⟨q1,P,Q,rfl⟩:=Zqa h;obtain ⟨rfl,r4⟩:=p1;refine ZWb (K:=65) (args:=[.slice q1 P Q,.int .i64 n]) hv Tryz.func145 rfl rfl zl fun f S=>?_;unfold ZMi at H;refine sr (mw S rfl fun f S=>oe (Zm fun _ ax=>Zm fun _ ay=>bO H fun az aA H=>Zv (mv S rfl fun f S=>ov S rfl (Zg S rfl rfl (Zvc aA)) fun f S=>mv S rfl fun f S=>ov S rfl (Zka S (ZK h) rfl rfl ZC) fun f S=>ov S rfl (Zg S rfl rfl Zzc) fun f S=>Zs (Zh (ay _ _ ?_)))));rcases ZM (decide ((((Zc 18446744073709551616 a)).length:Int)≤az)) with D | D
 ·have H:=ZL H D;refine ZX S rfl D (sr (mw S rfl fun f S=>oe (wp_ret (Z9a ?_))));obtain rfl:=Zp H;refine ZMa S (ZVa rfl (ZW S rfl)) ⟨[.slice none 0 0],rfl,(ZUg _)⟩
 have H:=ZN H D;refine ZR S rfl D (wp_skip (Zh (ax _ _ (Zm fun _ aB=>bO H fun bx aC H=>bO H fun k aD H=>bO H fun bz R H=>Zv (mv S rfl fun f S=>ov S rfl (Zka S (ZK h) rfl rfl ZC) fun f S=>mv S rfl fun f S=>ov S rfl (Zg S rfl rfl (Zvc aC)) fun f S=>ov S rfl (Zg S rfl rfl (ZIa aD)) fun f S=>?_)))));obtain ⟨ai,aj⟩:∃ c:List Value,c=(List.replicate (k).toNat [.int .u64 0]).flatten:=⟨_,rfl⟩;obtain ⟨aE,w,aF,S⟩:=Zyi ZPe S (l:=k) (c:=k) (ZUa R).1 (ZUa R).2.1 (ZUa R).2.2.1 (ZUa R).2.2.2 aj;have aG:Rep.rels (Zd .u64) g ai (List.replicate (k).toNat (0:Int)):=by rw [aj];exact ZIe (show Rep.rel (Zd .u64) _ [.int .u64 0] _ from (ZD (by decide))) _
 refine ZSb wn rfl zl (aF rfl rfl) S fun f S=>mw S rfl fun f S=>Zs (Zh (aB _ _ (Zm fun _ aH=>sr (mv S rfl fun f S=>ov S rfl (Zka S (repN (x:=(0:Int))) rfl rfl ZC) fun f S=>mv S rfl fun f S=>oe ?_))));obtain ⟨aI,aJ,aK⟩:=ZG H;refine ZBa (fun f w=>∃ t E u G ac T,t=aI∧Zb.le g T∧St 65 C g [(5,.slice (mkA E) u G)] [Loc.own E 148 1 u G ac] T f w∧Rep.rels (Zd .u64) T ac t∧u=t.length) (fun _ aL=>?_) ?_
 ·have H:=aJ;refine wp_block ?_;obtain ⟨bA,aM,aN⟩:=ZG H;refine ZTb aM (fun aO f w=>∃ p b U m r d o,(p,b)=aO∧Zb.le g o∧St 65 C g [(0,.slice q1 P Q),(1,.int .i64 n),(5,.slice (mkA U) m r),(19,.int .i64 ((((List.replicate (k).toNat (0:Int))).length:Int))),(20,.int .i64 b)] [Loc.own U 148 1 m r d] o f w∧Rep.rels (Zd .u64) o d p∧m=p.length∧inR .i64 b) ⟨_,_,some aE,(k).toNat,(k).toNat,ai,_,rfl,(leR _),(S.fr' rfl),aG,(repN (x:=(0:Int))),(by decide)⟩ ?_;rintro _ f w st ⟨p,b,U,m,r,d,o,hq,ad,S,ae,I,bB⟩ H bC aP aQ;subst hq;refine sr (ov S rfl (Zg S rfl rfl Zlc) fun f S=>oe (Zm fun _ aR=>?_));rcases ZM (decide (b<(((List.replicate (k).toNat (0:Int))).length:Int))) with J | J
  ·have H:=ZL H J;refine ZX S rfl J (wp_skip (Zh (aR _ _ (Zm fun _ aS=>wp_block (sr (mv S rfl fun f S=>mw S rfl fun f S=>oe (Zm fun _ aT=>bO H fun bD aU H=>bO H fun bE aV H=>bO H fun bG af H=>bO H fun bH aW H=>?_)))))));refine bO H fun e ak H=>bO H fun bI v H=>Zv (mv S rfl fun f S=>mv S rfl fun f S=>mv S rfl fun f S=>mv S rfl fun f S=>mv S rfl fun f S=>ov S rfl (Zg S rfl rfl (Zvc aU)) fun f S=>ov S rfl (Zg S rfl rfl (ZZa aV)) fun f S=>?_);have h:=Zda ad h;obtain ⟨_,al,am,bJ,rfl,aX,aY⟩:=Zqb h (Zi af).2.1;obtain ⟨rfl,aZ⟩:=aY;refine ov S rfl (ZQ S rfl rfl ZC (Zi af).1 (ltI (ZK h) (Zi af).2.2.1)) fun f S=>ov S rfl (Zoa S rfl Z8 (S.view aX)) fun f S=>mv S rfl fun f S=>ov S rfl (Zg S rfl rfl (Zrf aW)) fun f S=>ov S rfl (Zg S rfl rfl (ZZb ak)) fun f S=>?_;obtain ⟨ag,rfl⟩:=ZJc S (j:=0) rfl (posN I (Zi v).2.2.2);have an:=Zpa ae (Zi v).2.1;obtain ⟨bK,a0⟩:∃ c,(List.take (Zd .u64).n (List.drop ((b).toNat*(Zd .u64).n) d))=c:=⟨_,rfl⟩;rw [a0] at an;obtain ⟨rfl,bM⟩:=an;refine ov S rfl (ZQ S rfl rfl ZC (Zi v).1 (ltI I (Zi v).2.2.1)) fun f S=>?_;obtain ⟨w,a1,S⟩:=Z1b S Z8 (off:=0+(b).toNat*1) (z:=.int .u64 e) (cs:=[.int .u64 e]) (ZKb rfl) rfl (i:=0) rfl (ZVd S (j:=0) rfl (ltN I (Zi v).2.2.2)) (by first | rfl | simp [plain])
   have V:Rep.rels (Zd .u64) o (List.take (0+(b).toNat*1) d++[Value.int IntKind.u64 (e)]++List.drop (0+(b).toNat*1+1) d) (p.set (b).toNat e):=Zxd ae (Zi v).2.2.2 (show Rep.rel (Zd .u64) o [.int .u64 e] _ from (ZD (ZDg aZ ak))) rfl rfl;have B:m=(p.set (b).toNat e).length:=Zce I;refine Zpg wn rfl (a1 rfl rfl) (Zs (Zh (aT _ _ (Zm fun _ a2=>bO H fun bP a3 H=>bO H fun bQ a4 H=>bO H fun ao a5 H=>Zv (mv S rfl fun f S=>mv S rfl fun f S=>ov S rfl (Zg S rfl rfl (Zvc a3)) fun f S=>ov S rfl (Zg S rfl rfl (ZZa a4)) fun f S=>ov S rfl (Zg S rfl rfl (ZZa a5)) fun f S=>mv S rfl fun f S=>?_)))));refine ov S rfl (Zka S (ZK h) rfl rfl ZC) fun f S=>ov S rfl (Zg S rfl rfl Zlc) fun f S=>Zs ?_;have S:=S.fr' (σ':=[(0,.slice (some ⟨al,am,none⟩) P Q),(1,.int .i64 n),(5,.slice (mkA (some ag)) (m) r),(6,.int .i64 b),(19,.int .i64 ((((List.replicate (k).toNat (0:Int))).length:Int))),(20,.int .i64 b),(43,.bool (decide (ao<(((Zc 18446744073709551616 a)).length:Int))))]) rfl;refine Zh (a2 _ _ ?_);obtain ⟨a6,a7,a8⟩:=ZG H;refine ZBa (fun f w=>∃ W X L Y Z aa,W=a6∧Zb.le o aa∧St 65 C g [(0,.slice (some ⟨al,am,none⟩) P Q),(1,.int .i64 n),(5,.slice (mkA X) L Y),(19,.int .i64 ((((List.replicate (k).toNat (0:Int))).length:Int))),(20,.int .i64 b)] [Loc.own X 148 1 L Y Z] aa f w∧Rep.rels (Zd .u64) aa Z W∧L=W.length) (fun _ ap=>?_) ?_
   ·have H:=a7;rcases ZM (decide (ao<(((Zc 18446744073709551616 a)).length:Int))) with M | M
    ·have H:=ZL H M;refine ZX S rfl M (bO H fun q ab H=>bO H fun bR a9 H=>bO H fun bS ba H=>bO H fun bT bb H=>bO H fun bU ah H=>bO H fun bV bc H=>bO H fun bW bd H=>bO H fun s be H=>bO H fun bX N H=>Zje (fl:=#[true,true,true,true,true,true,true,true,true,true,true,true,true,true,true,true,true,true,false]) ZTf (by kernel_rfl) S ?_);intro ops O F w S;refine rfa O F 0 rfl rfl S (ZA S rfl) fun f S=>rfa O F 1 rfl rfl S (ZA S rfl) fun f S=>?_;have aq:=Zpa V (Zi ab).2.1;obtain ⟨bY,ar⟩:∃ c,(List.take (Zd .u64).n (List.drop ((b).toNat*(Zd .u64).n) (List.take (0+(b).toNat*1) d++[Value.int IntKind.u64 (e)]++List.drop (0+(b).toNat*1+1) d)))=c:=⟨_,rfl⟩;rw [ar] at aq;obtain ⟨rfl,bZ⟩:=aq;refine rfa O F 2 rfl rfl S (ZQ S rfl rfl ZC (Zi ab).1 (ltI B (Zi ab).2.2.1)) fun f S=>rfa O F 3 rfl rfl S (Zoa S rfl Z8 (Zjd S (j:=0) rfl ar (ltN B (Zi ab).2.2.2) 0 [.int .u64 q] rfl zl)) fun f S=>rfa O F 4 rfl rfl S (ZA S rfl) fun f S=>rfa O F 5 rfl rfl S (ZA S rfl) fun f S=>rfa O F 6 rfl rfl S (ZA S rfl) fun f S=>rfa O F 7 rfl rfl S (Zg S rfl rfl (Zvc a9)) fun f S=>rfa O F 8 rfl rfl S (Zg S rfl rfl (ZZa ba)) fun f S=>rfa O F 9 rfl rfl S (Zg S rfl rfl (ZZa bb)) fun f S=>?_
     obtain ⟨b0,bf,bg⟩:=ZHg h (Zi ah).2.1;obtain ⟨rfl,b1⟩:=bg;refine rfa O F 10 rfl rfl S (ZQ S rfl rfl ZC (Zi ah).1 (ltI (ZK h) (Zi ah).2.2.1)) fun f S=>rfa O F 11 rfl rfl S (Zoa S rfl Z8 (S.view bf)) fun f S=>rfa O F 12 rfl rfl S (ZA S rfl) fun f S=>rfa O F 13 rfl rfl S (Zg S rfl rfl (Zrf bc)) fun f S=>rfa O F 14 rfl rfl S (Zg S rfl rfl (ZIa bd)) fun f S=>rfa O F 15 rfl rfl S (Zg S rfl rfl (Zbi be)) fun f S=>rfa O F 16 rfl rfl S (Zg S rfl rfl ZPl) fun f S=>?_;have au:=Zpa V (Zi N).2.1;obtain ⟨b2,bh⟩:∃ c,(List.take (Zd .u64).n (List.drop ((b).toNat*(Zd .u64).n) (List.take (0+(b).toNat*1) d++[Value.int IntKind.u64 (e)]++List.drop (0+(b).toNat*1+1) d)))=c:=⟨_,rfl⟩;rw [bh] at au;obtain ⟨rfl,b3⟩:=au;refine rfa O F 17 rfl rfl S (ZQ S rfl rfl ZC (Zi N).1 (ltI B (Zi N).2.2.1)) fun f S=>go1 O F 18 ?_;obtain ⟨w,bi,S⟩:=Z1b S Z8 (off:=0+(b).toNat*1) (z:=.int .u64 (orI .u64 q s)) (cs:=[.int .u64 (orI .u64 q s)]) (ZKb rfl) rfl (i:=0) rfl (ZVd S (j:=0) rfl (ltN B (Zi N).2.2.2)) (by first | rfl | simp [plain]);have bj:Rep.rels (Zd .u64) o (List.take (0+(b).toNat*1) ((List.take (0+(b).toNat*1) d++[Value.int IntKind.u64 (e)]++List.drop (0+(b).toNat*1+1) d))++[Value.int IntKind.u64 (orI .u64 q s)]++List.drop (0+(b).toNat*1+1) ((List.take (0+(b).toNat*1) d++[Value.int IntKind.u64 (e)]++List.drop (0+(b).toNat*1+1) d))) (((p.set (b).toNat e)).set (b).toNat (orI .u64 q s)):=Zxd V (Zi N).2.2.2 (show Rep.rel (Zd .u64) o [.int .u64 (orI .u64 q s)] _ from (ZD (Zsa _ _))) rfl rfl
     have bk:m=(((p.set (b).toNat e)).set (b).toNat (orI .u64 q s)).length:=Zce B;refine nxs [0,1,2,3,4,5,6,7,8,9,10,11,12,13,14,15,16,17] [] O rfl rfl (bi rfl rfl) (⟨Zpc,Z0e O F ?_⟩);obtain rfl:=Zp H;refine Zh (ap _ _ ⟨_,some ag,m,r,(List.take (0+(b).toNat*1) ((List.take (0+(b).toNat*1) d++[Value.int IntKind.u64 (e)]++List.drop (0+(b).toNat*1+1) d))++[Value.int IntKind.u64 (orI .u64 q s)]++List.drop (0+(b).toNat*1+1) ((List.take (0+(b).toNat*1) d++[Value.int IntKind.u64 (e)]++List.drop (0+(b).toNat*1+1) d))),_,rfl,(leR _),(S.fr' rfl),bj,bk⟩)
    have H:=ZN H M;refine ZR S rfl M (wp_skip ?_);obtain rfl:=Zp H;refine Zh (ap _ _ ⟨_,some ag,m,r,(List.take (0+(b).toNat*1) d++[Value.int IntKind.u64 (e)]++List.drop (0+(b).toNat*1+1) d),_,rfl,(leR _),(S.fr' rfl),V,B⟩)
   rintro f w ⟨W,X,L,Y,Z,aa,hq,bm,S,bn,bo⟩;subst hq;have H:=a8;refine ZEb (Zh (aS _ _ (bO H fun b4 av H=>Zv (ov S rfl (Zg S rfl rfl (ZZa av)) fun f S=>mv S rfl fun f S=>Zs ?_))));obtain rfl:=Zp H;refine aP _ rfl _ _ ⟨_,_,X,L,Y,Z,_,rfl,(leT ad bm),(S.fr' rfl),bn,bo,(ZCa av).2⟩
  have H:=ZN H J;refine ZR S rfl J (wp_exit (Z2 ?_));obtain rfl:=Zp H;have hq:=aQ _ rfl;subst hq;have H:=aN;refine Z2 (Zjb ?_);obtain rfl:=Zp H;refine Zh (aL _ _ ⟨_,U,m,r,d,_,rfl,(leT (leR _) ad),(S.fr' rfl),ae,I⟩)
 rintro f w ⟨t,E,u,G,ac,T,hq,b5,S,bp,bq⟩;subst hq;have H:=aK;refine Zh (aH _ _ (Zm fun _ br=>bO H fun b6 bs H=>Zv (mv S rfl fun f S=>?_)));obtain ⟨b7,b8,S,bt⟩:=S.pubSlice (i:=0) (A:=(Zd .u64)) (l:=t) (ℓ':=[]) rfl rfl bq bp rfl;refine opc S rfl (Zaa S [.slice (mkA E) u G] Zuf rfl rfl) (ZBf S.vin (show Rep.rel (Zw (Zd .u64)) _ [.slice (mkA E) u G] t from bt) bs) ?_;rintro _ b9 f w ca ⟨cb,rfl,aw⟩ S;obtain ⟨bu,bv,bw,rfl⟩:=Zqa aw;refine mw S rfl fun f S=>Zs (Zh (br _ _ (wp_ret ?_)));obtain rfl:=Zp H;refine ZMa S (ZVa rfl (ZW S rfl)) ⟨[.slice bu bv bw],rfl,aw⟩
theorem right_c {c:World} {b:Zb} (hv:VIn b c) {d:List Value} {a:Nat} (h:Rep.rel Zx b d a) {e:List Value} {n:Int} (f:Rep.rel (Zd .i64) b e n) {z:Nat} (hm:Zih a n=some z) :
  Ret Tryz.prog 145 #[Zx.val d,(Zd .i64).val e] c b (fun y v'=>∃ g,y=Zx.val g∧Zx.rel v' g z) :=
 right_w hv h f (ZUy f.2 hm)
theorem word_w {b:World} {a:Zb} (hv:VIn a b) {c:List Value} {n:Int} (h:Rep.rel (Zd .u64) a c n) {z:Nat} (H:Zzi n=some z):Ret Tryz.prog 99 #[(Zd .u64).val c] b a (fun y v'=>∃ d,y=Zx.val d∧Zx.rel v' d z):=by
 obtain ⟨rfl,j⟩:=h;refine ZWb (K:=6) (args:=[.int .u64 n]) hv Tryz.func99 rfl rfl zl fun f S=>?_;unfold Zzi at H;refine sr (mw S rfl fun f S=>oe (Zm fun _ k=>bO H fun u m H=>Zv (mv S rfl fun f S=>?_)));obtain ⟨e,w,o,S⟩:=Zng S (n:=1) (cs:=[.int .u64 n]) (vals:=[(0,.int .u64 n)]) (sz:=1) rfl (by decide) (ZRo ZPe (x:=.int .u64 n) (cs:=[.int .u64 n]) rfl rfl (by decide));have p:Rep.rels (Zd .u64) a [.int .u64 n] [n]:=(Zrn (ZD j) Z7c);refine ZSb wn rfl zl (o rfl) S fun f S=>?_;obtain ⟨v,B,S,q⟩:=S.pubSlice (i:=0) (A:=(Zd .u64)) (l:=[n]) (ℓ':=[]) rfl rfl rfl p rfl;refine opc S rfl (Zaa S [.slice (mkA (some e)) (1) 1] Zuf rfl rfl) (ZBf S.vin (show Rep.rel (Zw (Zd .u64)) _ [.slice (mkA (some e)) (1) 1] ([n]) from q) m) ?_;rintro _ C f w D ⟨E,rfl,g⟩ S;obtain ⟨r,s,t,rfl⟩:=Zqa g;refine mw S rfl fun f S=>Zs (Zh (k _ _ (wp_ret ?_)));obtain rfl:=Zp H;refine ZMa S (ZVa rfl (ZW S rfl)) ⟨[.slice r s t],rfl,g⟩
theorem word_c {b:World} {a:Zb} (hv:VIn a b) {c:List Value} {n:Int} (e:Rep.rel (Zd .u64) a c n) {z:Nat} (hm:Zxc n=some z) :
  Ret Tryz.prog 99 #[(Zd .u64).val c] b a (fun y v'=>∃ d,y=Zx.val d∧Zx.rel v' d z) :=
 word_w hv e (ZRr hm)
theorem Zly {w0:World} {F:Zb} (hv:VIn F w0) {c0:List Value} {a:Nat} (m:Rep.rel Zx F c0 a) {c1:List Value} {b:Nat} (g:Rep.rel Zx F c1 b) {z:Nat×Nat} (H:ZFi a b=some z):Ret Tryz.prog 102 #[Zx.val c0,Zx.val c1] w0 F (fun y v'=>∃ r0 r1,y = .tuple #[Zx.val r0,Zx.val r1]∧Zx.rel v' r0 z.1∧Zx.rel v' r1 z.2):=by
 obtain ⟨R,T,U,rfl⟩:=Zqa m;obtain ⟨q4,n5,k6,rfl⟩:=Zqa g;refine ZWb (K:=84) (args:=[.slice R T U,.slice q4 n5 k6]) hv Tryz.func102 rfl rfl zl fun f S=>?_;unfold ZFi at H;refine sr (mw S rfl fun f S=>mw S rfl fun f S=>oe (Zm fun _ bb=>wp_block (Zm fun _ bc=>bO H fun bd be H=>Zv (mv S rfl fun f S=>mv S rfl fun f S=>opc S rfl (Zaa S [.slice R T U,.slice q4 n5 k6] Zmq rfl rfl) (cmp_c S.vin m g be) ?_))));rintro _ cV f w aj ⟨cW,rfl,bf⟩ S;obtain ⟨rfl,cX⟩:=bf;refine ov S rfl (Zg S rfl rfl Zlc) fun f S=>mw S rfl fun f S=>Zs (Zh (bc _ _ ?_));rcases ZM (decide (bd<(0:Int))) with V | V
 ·have H:=ZL H V;refine ZX S rfl V (sr (mv S rfl fun f S=>mw S rfl fun f S=>mw S rfl fun f S=>oe (wp_ret (Z9g (Z9a ?_)))));obtain rfl:=Zp H;have m:=Zda aj m;refine ZMa S (Z7e rfl (ZW S rfl) (ZW S rfl)) ⟨[.slice none 0 0],[.slice R T U],rfl,(ZUg _),m⟩
 have H:=ZN H V;refine ZR S rfl V (sr (mv S rfl fun f S=>?_));have g:=Zda aj g;refine ov S rfl (Zka S (ZK g) rfl rfl ZC) fun f S=>ov S rfl (Zg S rfl rfl ZJe) fun f S=>mw S rfl fun f S=>oe ?_;rcases ZM (((((Zc 18446744073709551616 b)).length:Int))==(1:Int)) with W | W
 ·have H:=ZL H W;refine ZX S rfl W (Zm fun _ bg=>bO H fun au av H=>bO H fun aw bh H=>Zv (mv S rfl fun f S=>mv S rfl fun f S=>?_));obtain ⟨_,cY,cZ,c2,rfl,ax,bi⟩:=Zqb g (Zi av).2.1;obtain ⟨rfl,bj⟩:=bi;refine ov S rfl (ZQ S rfl rfl ZC (Zi av).1 (ltI (ZK g) (Zi av).2.2.1)) fun f S=>ov S rfl (Zoa S rfl Z8 (S.view ax)) fun f S=>?_;have m:=Zda aj m;refine opc S rfl (Zaa S [.slice R T U,.int .u64 au] ZFs rfl rfl) (ZGp S.vin m (show Rep.rel (Zd .u64) _ [.int .u64 au] au from (ZD bj)) bh) ?_;rintro _ c3 f w bk ⟨c4,c5,rfl,ak,bm⟩ S;have ax:=Atm bk ax;obtain ⟨aS,aT,aU,rfl⟩:=Zqa ak;obtain ⟨rfl,bn⟩:=bm;refine mv S rfl fun f S=>ov S rfl (ZFa S rfl rfl) fun f S=>ov S rfl (ZFa S rfl rfl) fun f S=>mw S rfl fun f S=>mw S rfl fun f S=>Zs (Zh (bg _ _ (Zm fun _ bo=>bO H fun c6 bp H=>Zv (mv S rfl fun f S=>mv S rfl fun f S=>opc S rfl (Zaa S [.int .u64 (aw.2)] k_en99 rfl rfl) (word_c S.vin (show Rep.rel (Zd .u64) _ [.int .u64 (aw.2)] aw.2 from (ZD bn)) bp) ?_))));rintro _ c7 f w bq ⟨c8,rfl,aV⟩ S;obtain ⟨aW,aX,aY,rfl⟩:=Zqa aV;refine mw S rfl fun f S=>mw S rfl fun f S=>Zs ?_;have S:=S.fr' (σ':=[(4,.slice aS aT aU),(5,.slice aW aX aY)]) rfl;refine Zh (bo _ _ (wp_ret (Z9g (Z9a ?_))))
  obtain rfl:=Zp H;have ak:=Zda bq ak;refine ZMa S (Z7e rfl (ZW S rfl) (ZW S rfl)) ⟨[.slice aS aT aU],[.slice aW aX aY],rfl,ak,aV⟩
 have H:=ZN H W;refine ZR S rfl W (wp_skip (ZEb (Zh (bb _ _ (Zm fun _ br=>bO H fun c9 bs H=>bO H fun ay az H=>bO H fun k bt H=>Zv (mv S rfl fun f S=>mv S rfl fun f S=>ov S rfl (Zka S (ZK g) rfl rfl ZC) fun f S=>ov S rfl (Zg S rfl rfl (ZIa bs)) fun f S=>?_))))));obtain ⟨_,bu,bv,da,rfl,aA,bw⟩:=Zqb g (Zi az).2.1;obtain ⟨rfl,bx⟩:=bw;refine ov S rfl (ZQ S rfl rfl ZC (Zi az).1 (ltI (ZK g) (Zi az).2.2.1)) fun f S=>ov S rfl (Zoa S rfl Z8 (S.view aA)) fun f S=>opc S rfl (Zaa S [.int .u64 ay] Znr rfl rfl) (ZMs S.vin (show Rep.rel (Zd .u64) _ [.int .u64 ay] ay from (ZD bx)) bt) ?_;rintro _ db f w aB ⟨dc,rfl,bz⟩ S;have aA:=Atm aB aA;obtain ⟨rfl,aC⟩:=bz;refine mw S rfl fun f S=>Zs (Zh (br _ _ (Zm fun _ bA=>bO H fun bB bC H=>Zv (mv S rfl fun f S=>mv S rfl fun f S=>?_))));have g:=Zda aB g;refine opc S rfl (Zaa S [.slice (some ⟨bu,bv,none⟩) n5 k6,.int .i64 k] Z2s rfl rfl) (Z0p S.vin g (show Rep.rel (Zd .i64) _ [.int .i64 k] k from (ZD aC)) bC) ?_;rintro _ bD f w bE ⟨dd,rfl,v⟩ S;obtain ⟨aD,aE,aF,rfl⟩:=Zqa v;refine mw S rfl fun f S=>Zs (Zh (bA _ _ (Zm fun _ bG=>bO H fun X bH H=>bO H fun de bI H=>bO H fun df bJ H=>Zv ?_)))
 obtain ⟨dg,w,bK,S⟩:=Zng (P:=Tryz.prog) (t:=39) (e:=148) S (n:=0) (cs:=[]) (vals:=[]) (sz:=1) rfl (by decide) (fun _=>by kernel_rfl);have aG:Rep.rels (Zd .u64) bD [] []:=Z7c;refine ZSb wn rfl zl (bK rfl) S fun f S=>mv S rfl fun f S=>mv S rfl fun f S=>?_;have m:=Zda (leT (leT aj aB) bE) m;refine opc S rfl (Zaa S [.slice R T U,.int .i64 k] Z2s rfl rfl) (Z0p S.vin m (show Rep.rel (Zd .i64) _ [.int .i64 k] k from (ZD aC)) bH) ?_;rintro _ al f w aZ ⟨dh,rfl,aH⟩ S;have aG:=Z0 aZ aG;obtain ⟨di,dj,dk,rfl⟩:=Zqa aH;have aI:=S;obtain ⟨dl,dm,a0,w,bM,S,bP⟩:=Zig (ty:=39) (A:=(Zd .u64)) ZPe S (i:=0) (n':=(([]:(List Int))++((Zc 18446744073709551616 X))).length) rfl aH (appN rfl (ZK aH)) (ZFe bI) (by decide);have bQ:=ZBc aG bP;refine ZSb wn rfl zl (Zte aI rfl rfl bM) S fun f S=>?_;obtain ⟨dn,w,bR,S⟩:=Zng S (n:=1) (cs:=[.int .u64 0]) (vals:=[(0,.int .u64 0)]) (sz:=1) rfl (by decide) (ZRo ZPe (x:=.int .u64 0) (cs:=[.int .u64 0]) rfl rfl (by decide));have aJ:Rep.rels (Zd .u64) al [.int .u64 0] [(0:Int)]:=(Zrn (ZD (by decide)) Z7c);refine ZSb wn rfl zl (bR rfl) S fun f S=>?_;have aI:=S;obtain ⟨aK,aL,w,bS,S⟩:=Zpl (ty:=39) ZPe S (i:=1) (n':=((([]:(List Int))++((Zc 18446744073709551616 X)))++[(0:Int)]).length) rfl (ZDe aJ rfl) (ZZk S (j:=0) rfl) (ZCl aJ) (appN rfl rfl) (ZFe bJ) (by decide)
 have bT:=ZBc bQ aJ;refine ZSb wn rfl zl (Zte aI rfl rfl bS) S fun f S=>mw S rfl fun f S=>Zs ?_;have S:=S.fr' (σ':=[(8,.int .i64 k),(9,.slice aD aE aF),(10,.slice (mkA aK) (((([]:(List Int))++((Zc 18446744073709551616 X)))++[(0:Int)]).length) aL)]) rfl;refine Zh (bG _ _ (sr (mv S rfl fun f S=>?_)));have v:=Zda aZ v;refine ov S rfl (Zka S (ZK v) rfl rfl ZC) fun f S=>mw S rfl fun f S=>oe (Zm fun _ bU=>bO H fun q bV H=>bO H fun dp am H=>Zv (mv S rfl fun f S=>ov S rfl (Zka S rfl rfl rfl ZC) fun f S=>mv S rfl fun f S=>ov S rfl (Zg S rfl rfl (ZIa bV)) fun f S=>?_));obtain ⟨aM,a1⟩:∃ c:List Value,c=(List.replicate (q).toNat [.int .u64 0]).flatten:=⟨_,rfl⟩;obtain ⟨a2,w,bW,S⟩:=Zyi ZPe S (l:=q) (c:=q) (ZUa am).1 (ZUa am).2.1 (ZUa am).2.2.1 (ZUa am).2.2.2 a1;have bX:Rep.rels (Zd .u64) al aM (List.replicate (q).toNat (0:Int)):=by rw [a1];exact ZIe (show Rep.rel (Zd .u64) _ [.int .u64 0] _ from (ZD (by decide))) _
 refine ZSb wn rfl zl (bW rfl rfl) S fun f S=>mw S rfl fun f S=>Zs (Zh (bU _ _ (Zm fun _ bY=>Zm fun _ bZ=>bO H fun dq a3 H=>Zv (mv S rfl fun f S=>ov S rfl (Zka S (repN (x:=(0:Int))) rfl rfl ZC) fun f S=>ov S rfl (Zg S rfl rfl (ZIa a3)) fun f S=>mw S rfl fun f S=>Zs (Zh (bZ _ _ ?_))))));obtain ⟨b0,b1,b2⟩:=ZG H;refine ZBa (fun f w=>∃ G I J B L an Y M Z aN aa,(G,I)=b0∧Zb.le al aa∧St 84 w0 F [(8,.int .i64 k),(10,.slice (mkA J) B L),(12,.slice (mkA Y) M Z)] [Loc.own J 148 1 B L an,Loc.own Y 148 1 M Z aN] aa f w∧Rep.rels (Zd .u64) aa an G∧B=G.length∧Rep.rels (Zd .u64) aa aN I∧M=I.length) (fun _ b3=>?_) ?_
 ·have H:=b1;refine wp_block ?_;obtain ⟨dr,b4,b5⟩:=ZG H;have S:=S.reorder (ℓ':=[Loc.own aK 148 1 (((([]:(List Int))++((Zc 18446744073709551616 X)))++[(0:Int)]).length) aL ((([]++a0)++[.int .u64 0])),Loc.own (some a2) 148 1 ((q).toNat) (q).toNat aM]) [2,0] rfl (by decide);refine ZTb b4 (fun b6 f w=>∃ ao N d ap C D s aq E ab o ac,(ao,N,d)=b6∧Zb.le al ac∧St 84 w0 F [(8,.int .i64 k),(9,.slice aD aE aF),(10,.slice (mkA ap) C D),(11,.int .i64 ((((Zc 18446744073709551616 bB)).length:Int))),(12,.slice (mkA aq) E ab),(13,.int .i64 d)] [Loc.own ap 148 1 C D s,Loc.own aq 148 1 E ab o] ac f w∧Rep.rels (Zd .u64) ac s ao∧C=ao.length∧Rep.rels (Zd .u64) ac o N∧E=N.length∧inR .i64 d) ⟨_,_,_,aK,((([]:(List Int))++((Zc 18446744073709551616 X)))++[(0:Int)]).length,aL,(([]++a0)++[.int .u64 0]),some a2,(q).toNat,(q).toNat,aM,_,rfl,(leR _),(S.fr' rfl),bT,rfl,bX,(repN (x:=(0:Int))),(ZCa a3).2⟩ ?_;rintro _ f w st ⟨ao,N,d,ap,C,D,s,aq,E,ab,o,ac,hq,aO,S,ad,ae,af,ag,ds⟩ H dt b7 b8
  subst hq;refine Zm fun _ b9=>sr (mv S rfl fun f S=>ov S rfl (Zg S rfl rfl Zzc) fun f S=>oe ?_);rcases ZM (decide ((0:Int)≤d)) with ah | ah
  ·have H:=ZL H ah;refine ZX S rfl ah (wp_skip (Zh (b9 _ _ (Zm fun _ ca=>wp_block (bO H fun du cb H=>bO H fun O cc H=>bO H fun dv h H=>bO H fun u cd H=>bO H fun dw Q H=>Zv (mv S rfl fun f S=>mv S rfl fun f S=>mv S rfl fun f S=>?_))))));refine mv S rfl fun f S=>mv S rfl fun f S=>mv S rfl fun f S=>ov S rfl (Zg S rfl rfl (ZZa cb)) fun f S=>ov S rfl (Zg S rfl rfl (ZZa cc)) fun f S=>?_;obtain ⟨aP,rfl⟩:=ZJc S (j:=0) rfl (by have:=Zrc h;have:=ae;omega);refine ov S rfl (ZWu S (j:=0) rfl ZC (Zrc h).1 (Zrc h).2.1 (by have:=(Zrc h).2.2.1;have:=ae;omega) rfl rfl rfl) fun f S=>mv S rfl fun f S=>?_;obtain ⟨pre399,post400,ce,cg,ch,ci,cj,ck⟩:=Zxx S (i:=0) (lo:=(d).toNat) (hi:=(O).toNat) rfl (Zrc h).2.2.2.2.2.1 (by have:=(Zrc h).2.2.2.2.2.2;have:=ae;omega);have v:=Zda aO v;refine Zfq S wn rfl zl (Zaa S [.slice (some ⟨aP,(d).toNat*1,none⟩) ((O-d).toNat) (D-(d).toNat),.slice aD aE aF] k_en144 rfl rfl) (i:=0) rfl rfl (digit_c S.vin ce ch cg (Zrc h).2.2.2.2.1 ⟨Zbx (Zrc h).1 (Zrc h).2.1 ci,cj⟩ (ZJv ad rfl (Zrc h).2.2.2.1) v cd) ?_;rintro _ a4 f w aQ ⟨⟨dx,rfl,cl⟩,cm,aR,cn,co,a5⟩ hSf;have ad:=Z0 aQ ad
   have af:=Z0 aQ af;have a6:((O).toNat-(d).toNat)=u.2.length:=by have:=co;have:=Zrc h;omega
   have S:=hSf (Loc.own (some aP) 148 1 C D (List.take ((d).toNat*1) s++aR++List.drop ((O).toNat*1) s)) rfl (ck _ aR (ZDe a5 a6) cn) cm;have cp:=Zpy (p:=(d).toNat) (r:=(O).toNat) (sz:=1) ad a5 rfl;have cq:=ZAv ae (Zrc h).2.2.2.2.2.1 (Zrc h).2.2.2.2.2.2 a6;obtain ⟨rfl,cr⟩:=cl;obtain ⟨ct,rfl⟩:=ZJc S (j:=1) rfl (posN ag (Zi Q).2.2.2);have a7:=Zpa af (Zi Q).2.1;obtain ⟨dy,cu⟩:∃ c,(List.take (Zd .u64).n (List.drop ((d).toNat*(Zd .u64).n) o))=c:=⟨_,rfl⟩;rw [cu] at a7;obtain ⟨rfl,dz⟩:=a7;refine ov S rfl (ZQ S rfl rfl ZC (Zi Q).1 (ltI ag (Zi Q).2.2.1)) fun f S=>?_;obtain ⟨w,cv,S⟩:=Z1b S Z8 (off:=0+(d).toNat*1) (z:=.int .u64 (u.1)) (cs:=[.int .u64 (u.1)]) (ZKb rfl) rfl (i:=1) rfl (ZVd S (j:=1) rfl (ltN ag (Zi Q).2.2.2)) (by first | rfl | simp [plain]);have cw:Rep.rels (Zd .u64) a4 (List.take (0+(d).toNat*1) o++[Value.int IntKind.u64 (u.1)]++List.drop (0+(d).toNat*1+1) o) (N.set (d).toNat u.1):=Zxd af (Zi Q).2.2.2 (show Rep.rel (Zd .u64) a4 [.int .u64 (u.1)] _ from (ZD cr)) rfl rfl;have cx:E=(N.set (d).toNat u.1).length:=Zce ag;refine Zpg wn rfl (cv rfl rfl) (Zs (ZEb (Zh (ca _ _ (bO H fun dA a8 H=>Zv (mv S rfl fun f S=>ov S rfl (Zg S rfl rfl (ZIa a8)) fun f S=>mw S rfl fun f S=>Zs ?_))))))
   obtain rfl:=Zp H;refine b7 _ rfl _ _ ⟨_,_,_,some aP,C,D,(List.take ((d).toNat*1) s++aR++List.drop ((O).toNat*1) s),some ct,E,ab,(List.take (0+(d).toNat*1) o++[Value.int IntKind.u64 (u.1)]++List.drop (0+(d).toNat*1+1) o),_,rfl,(leT aO aQ),(S.fr' rfl),cp,cq,cw,cx,(ZCa a8).2⟩
  have H:=ZN H ah;refine ZR S rfl ah (wp_exit (Z2 ?_));obtain rfl:=Zp H;have hq:=b8 _ rfl;subst hq;have H:=b5;refine Z2 (Zjb ?_);obtain rfl:=Zp H;refine Zh (b3 _ _ ⟨_,_,ap,C,D,s,aq,E,ab,o,_,rfl,(leT (leR _) aO),(S.fr' rfl),ad,ae,af,ag⟩)
 rintro f w ⟨G,I,J,B,L,an,Y,M,Z,aN,aa,hq,dB,S,ai,cy,cz,cA⟩;subst hq;have H:=b2;refine Zh (bY _ _ (Zm fun _ cB=>bO H fun dC cC H=>bO H fun dD cD H=>bO H fun dE cE H=>Zv (mv S rfl fun f S=>?_)));obtain ⟨dF,cF,S,cG⟩:=S.pubSlice (i:=1) (A:=(Zd .u64)) (l:=I) (ℓ':=[Loc.own J 148 1 B L an]) rfl rfl cA cz rfl;have ai:=Z0 cF ai;refine opc S rfl (Zaa S [.slice (mkA Y) M Z] Zuf rfl rfl) (ZBf S.vin (show Rep.rel (Zw (Zd .u64)) _ [.slice (mkA Y) M Z] I from cG) cC) ?_;rintro _ dG f w cH ⟨dH,rfl,ar⟩ S;have ai:=Z0 cH ai;obtain ⟨cI,cJ,cK,rfl⟩:=Zqa ar;refine mv S rfl fun f S=>?_;obtain ⟨dI,cL,S,cM⟩:=S.pubSlice (i:=0) (A:=(Zd .u64)) (l:=G) (ℓ':=[]) rfl rfl cy ai rfl;refine opc S rfl (Zaa S [.slice (mkA J) B L] Zuf rfl rfl) (ZBf S.vin (show Rep.rel (Zw (Zd .u64)) _ [.slice (mkA J) B L] G from cM) cD) ?_;rintro _ dJ f w cN ⟨dK,rfl,a9⟩ S;obtain ⟨cO,cP,cQ,rfl⟩:=Zqa a9;refine mv S rfl fun f S=>opc S rfl (Zaa S [.slice cO cP cQ,.int .i64 k] k_en145 rfl rfl) (right_c S.vin a9 (show Rep.rel (Zd .i64) _ [.int .i64 k] k from (ZD aC)) cE) ?_;rintro _ dL f w cR ⟨dM,rfl,ba⟩ S;obtain ⟨cS,cT,cU,rfl⟩:=Zqa ba
 refine mw S rfl fun f S=>mw S rfl fun f S=>Zs (Zh (cB _ _ (wp_ret ?_)));obtain rfl:=Zp H;have ar:=Zda (leT (leT cL cN) cR) ar;refine ZMa S (Z7e rfl (ZW S rfl) (ZW S rfl)) ⟨[.slice cI cJ cK],[.slice cS cT cU],rfl,ar,ba⟩
theorem Z3v {d:World} {c:Zb} (hv:VIn c d) {e:List Value} {a:Nat} (i:Rep.rel Zx c e a) {f:List Value} {b:Nat} (j:Rep.rel Zx c f b) {z:Nat×Nat} (hm:ZLd a b=some z) :
  Ret Tryz.prog 102 #[Zx.val e,Zx.val f] d c (fun y v'=>∃ g h,y=Value.tuple #[Zx.val g,Zx.val h]∧Zx.rel v' g z.1∧Zx.rel v' h z.2) :=
 Zly hv i j (ZQv hm)
end Go.Eng
set_option maxRecDepth 100000
set_option maxHeartbeats 4000000
namespace Go.Eng
open Go.Proofs Go.RowKit
noncomputable def Zrh:FuncId×Con:=(102,⟨[.leaf 0,.leaf 0],[.leaf 0,.leaf 0],fun p=>ZLd p.1 p.2⟩)
theorem Zvs:Zj Tryz.prog Zrh.1 Zrh.2:=fun w v vals x z hv ha hz=>by
 obtain ⟨c0,w0,e0,p0,c1,e1,p1⟩:=ha;subst e0;subst e1
 exact .inl ⟨fun _ _=>by kernel_rfl,Ret.mono (Z3v hv p0 p1 hz) fun y v' _ ⟨r0,r1,e,h0,h1⟩=>⟨_,e,r0,_,rfl,h0,r1,rfl,h1⟩⟩
end Go.Eng
set_option maxRecDepth 100000
set_option maxHeartbeats 4000000
namespace Go.Eng
open Go.Proofs Go.RowKit
noncomputable def ZKj:FuncId×Con:=(141,⟨[.leaf 0,.leaf 0],[.int .u64],fun p=>ZIh p.1 p.2⟩)
theorem small_i (a:Nat) (b:Nat):Zk ⟨Tryz.prog,[(39,0)],[],[],[],[],[],[]⟩ [] Tryz.f141 (.two .no (.two .no (.two (.two .no (.cut ⟨⟨[],[],[]⟩,[(.norm,⟨[1],[],[.s 5 (.dat (.int .u64))]⟩)]⟩ .no)) (.two .no (.two (.cut ⟨⟨[],[],[]⟩,[(.norm,⟨[],[],[.s 5 (.dat (.int .u64))]⟩)]⟩ (.two (.cut ⟨⟨[],[],[.s 5 (.dat (.int .u64)),.s 6 (.dat (.int .u64))]⟩,[(.exit 0,⟨[],[],[.s 5 (.dat (.int .u64))]⟩)]⟩ .no) .no)) .no))))) [.leaf 0,.leaf 0] [.int .u64] (a,b)=ZYk a b:=by kernel_rfl
theorem small_k:Zj Tryz.prog ZKj.1 ZKj.2:=Zn (C:=⟨Tryz.prog,[(39,0)],[],[],[],[],[],[]⟩) trivial trivial trivial trivial (inl:=[]) trivial (ann:=.two .no (.two .no (.two (.two .no (.cut ⟨⟨[],[],[]⟩,[(.norm,⟨[1],[],[.s 5 (.dat (.int .u64))]⟩)]⟩ .no)) (.two .no (.two (.cut ⟨⟨[],[],[]⟩,[(.norm,⟨[],[],[.s 5 (.dat (.int .u64))]⟩)]⟩ (.two (.cut ⟨⟨[],[],[.s 5 (.dat (.int .u64)),.s 6 (.dat (.int .u64))]⟩,[(.exit 0,⟨[],[],[.s 5 (.dat (.int .u64))]⟩)]⟩ .no) .no)) .no))))) Tryz.func141 (fun _ _=>by kernel_rfl) rfl fun v vals x z ha hz=>(small_i x.1 x.2).trans (Zst hz)
end Go.Eng
set_option maxRecDepth 100000
set_option maxHeartbeats 4000000
namespace Go.Eng
open Go.Proofs Go.RowKit
noncomputable def ZSj:FuncId×Con:=(100,⟨[.leaf 0,.leaf 0],[.leaf 0],fun p=>gcdF p.1 p.2⟩)
theorem gcd_i (a:Nat) (b:Nat):Zk ⟨Tryz.prog,[(39,0)],[Z3e,Zrh,ZKj],[],[],[],[],[]⟩ [] Tryz.f100 (.two .no (.two (.cut ⟨⟨[],[],[]⟩,[(.norm,⟨[],[],[.s 0 (.dat (.leaf 0))]⟩),(.ret,⟨[],[],[.s 1000 (.dat (.leaf 0))]⟩)]⟩ (.two (.cut ⟨⟨[],[],[.s 0 (.dat (.leaf 0)),.s 1 (.dat (.leaf 0))]⟩,[(.ret,⟨[],[],[.s 1000 (.dat (.leaf 0))]⟩),(.exit 0,⟨[],[],[.s 0 (.dat (.leaf 0))]⟩)]⟩ (.two (.two .no (.two (.two (.two (.cut ⟨⟨[],[],[]⟩,[(.norm,⟨[0,1],[],[.s 17 (.dat .bool)]⟩)]⟩ .no) .no) .no) .no)) .no)) .no)) .no)) [.leaf 0,.leaf 0] [.leaf 0] (a,b)=Z1k a b:=by kernel_rfl
theorem gcd_k:Zj Tryz.prog ZSj.1 ZSj.2:=Zn (C:=⟨Tryz.prog,[(39,0)],[Z3e,Zrh,ZKj],[],[],[],[],[]⟩) ⟨Zvp,Zvs,small_k,trivial⟩ trivial trivial trivial (inl:=[]) trivial (ann:=.two .no (.two (.cut ⟨⟨[],[],[]⟩,[(.norm,⟨[],[],[.s 0 (.dat (.leaf 0))]⟩),(.ret,⟨[],[],[.s 1000 (.dat (.leaf 0))]⟩)]⟩ (.two (.cut ⟨⟨[],[],[.s 0 (.dat (.leaf 0)),.s 1 (.dat (.leaf 0))]⟩,[(.ret,⟨[],[],[.s 1000 (.dat (.leaf 0))]⟩),(.exit 0,⟨[],[],[.s 0 (.dat (.leaf 0))]⟩)]⟩ (.two (.two .no (.two (.two (.two (.cut ⟨⟨[],[],[]⟩,[(.norm,⟨[0,1],[],[.s 17 (.dat .bool)]⟩)]⟩ .no) .no) .no) .no)) .no)) .no)) .no)) Tryz.func100 (fun _ _=>by kernel_rfl) rfl fun v vals x z ha hz=>(gcd_i x.1 x.2).trans (gcdF_eq hz)
end Go.Eng
set_option maxRecDepth 100000
set_option maxHeartbeats 4000000
namespace Go.Eng
open Go.Proofs Go.RowKit
noncomputable def Zch:FuncId×Con:=(101,⟨[.leaf 0],[.bool],fun p=>Z7f p⟩)
theorem isOne_i (a:(List Int)):Zk ⟨Tryz.prog,[],[],[],[],[],[],[]⟩ [] Tryz.f101 (.two .no (.two (.cut ⟨⟨[],[],[]⟩,[(.norm,⟨[],[],[.s 2 (.dat .bool)]⟩)]⟩ .no) .no)) [.slice (.int .u64)] [.bool] (a)=ZHo a:=by kernel_rfl
theorem Zor:Zj Tryz.prog Zch.1 Zch.2:=Zil (C:=⟨Tryz.prog,[],[],[],[],[],[],[]⟩) trivial trivial trivial trivial (inl:=[]) trivial (ann:=.two .no (.two (.cut ⟨⟨[],[],[]⟩,[(.norm,⟨[],[],[.s 2 (.dat .bool)]⟩)]⟩ .no) .no)) (ats:=[.slice (.int .u64)]) (rts:=[.bool]) (fun x=>((Zc 18446744073709551616 x))) (fun z=>z) (fun _ _ _ h=>h) (fun _ _ _ h=>h) Tryz.func101 (fun _ _=>by kernel_rfl) rfl fun v vals x z ha hz=>(isOne_i (Zc 18446744073709551616 x)).trans (ZDv.trans hz)
end Go.Eng
set_option maxRecDepth 100000
set_option maxHeartbeats 4000000
namespace Go.Eng
open Go.Proofs Go.RowKit
noncomputable def ZRd:FuncId×Con:=(56,⟨[.leaf 2,.leaf 0],[.leaf 3],fun p=>Zsd p.1 p.2⟩)
theorem over_i (n:Int) (d:Nat):Zk ⟨Tryz.prog,[(39,0),(41,2),(43,3)],[ZSj,Zch,Zrh],[],[],[],[],[]⟩ [] Tryz.f56 (.two .no (.two (.two .no (.two .no (.cut ⟨⟨[],[],[]⟩,[(.norm,⟨[2,4],[],[.s 1 (.dat (.leaf 0)),.l (.sl 2) (.box 41 (.dat (.pair .bool (.leaf 0))))]⟩)]⟩ .no))) (.two (.two .no (.cut ⟨⟨[],[],[]⟩,[(.norm,⟨[2,4],[],[.s 1 (.dat (.leaf 0))]⟩)]⟩ .no)) .no))) [.leaf 2,.leaf 0] [.leaf 3] (n,d)=Zbp n d:=by kernel_rfl
theorem ZNj:Zj Tryz.prog ZRd.1 ZRd.2:=Zn (C:=⟨Tryz.prog,[(39,0),(41,2),(43,3)],[ZSj,Zch,Zrh],[],[],[],[],[]⟩) ⟨gcd_k,Zor,Zvs,trivial⟩ trivial trivial trivial (inl:=[]) trivial (ann:=.two .no (.two (.two .no (.two .no (.cut ⟨⟨[],[],[]⟩,[(.norm,⟨[2,4],[],[.s 1 (.dat (.leaf 0)),.l (.sl 2) (.box 41 (.dat (.pair .bool (.leaf 0))))]⟩)]⟩ .no))) (.two (.two .no (.cut ⟨⟨[],[],[]⟩,[(.norm,⟨[2,4],[],[.s 1 (.dat (.leaf 0))]⟩)]⟩ .no)) .no))) Tryz.func56 (fun _ _=>by kernel_rfl) rfl fun v vals x z ha hz=>(over_i x.1 x.2).trans (ZPx hz)
end Go.Eng
set_option maxRecDepth 100000
set_option maxHeartbeats 4000000
namespace Go.Eng
open Go.Proofs Go.RowKit
noncomputable def Zcc:FuncId×Con:=(103,⟨[.bool,.leaf 0],[.leaf 2],fun p=>Zsb p.1 p.2⟩)
theorem whole_i (s:Bool) (n:Nat):Zk ⟨Tryz.prog,[(39,0),(41,2),(43,3)],[],[],[],[],[],[]⟩ [] Tryz.f103 (.two .no (.two (.cut ⟨⟨[],[],[]⟩,[(.norm,⟨[4],[],[.l (.sl 4) (.box 41 (.dat (.pair .bool (.leaf 0))))]⟩)]⟩ .no) .no)) [.bool,.leaf 0] [.leaf 2] (s,n)=ZFo s n:=by kernel_rfl
theorem Zzh:Zj Tryz.prog Zcc.1 Zcc.2:=Zn (C:=⟨Tryz.prog,[(39,0),(41,2),(43,3)],[],[],[],[],[],[]⟩) trivial trivial trivial trivial (inl:=[]) trivial (ann:=.two .no (.two (.cut ⟨⟨[],[],[]⟩,[(.norm,⟨[4],[],[.l (.sl 4) (.box 41 (.dat (.pair .bool (.leaf 0))))]⟩)]⟩ .no) .no)) Tryz.func103 (fun _ _=>by kernel_rfl) rfl fun v vals x z ha hz=>(whole_i x.1 x.2).trans (Zvu hz)
end Go.Eng
set_option maxRecDepth 100000
set_option maxHeartbeats 4000000
namespace Go.Eng
open Go.Proofs Go.RowKit
noncomputable def Z3j:FuncId×Con:=(89,⟨[.int .i64,.int .i64],[.leaf 3,.int .i64],fun p=>Zri p.1 p.2⟩)
theorem qnew_i (n:Int) (d:Int):Zk ⟨Tryz.prog,[(39,0),(41,2),(43,3)],[ZRd,Zcc,of_q],[],[],[],[],[]⟩ [] Tryz.f89 .no [.int .i64,.int .i64] [.leaf 3,.int .i64] (n,d)=ZOo n d:=by kernel_rfl
theorem qnew_k:Zj Tryz.prog Z3j.1 Z3j.2:=Zn (C:=⟨Tryz.prog,[(39,0),(41,2),(43,3)],[ZRd,Zcc,of_q],[],[],[],[],[]⟩) ⟨ZNj,Zzh,of_k,trivial⟩ trivial trivial trivial (inl:=[]) trivial (ann:=.no) Tryz.func89 (fun _ _=>by kernel_rfl) rfl fun v vals x z ha hz=>by obtain ⟨c0,w0,e0,p0,c1,e1,p1⟩:=ha;exact (qnew_i x.1 x.2).trans (Zrw p0.2 p1.2 hz)
end Go.Eng
set_option maxRecDepth 100000
set_option maxHeartbeats 4000000
namespace Go.Eng
open Go.Proofs Go.RowKit
noncomputable def ZBm:FuncId×Con:=(40,⟨[.pair (.int .i64) (.int .i64)],[.leaf 3],fun p=>ZRi p⟩)
theorem ZNv (r:(Int×Int)):Zk ⟨Tryz.prog,[(39,0),(41,2),(43,3)],[ZCh,Z3j],[],[],[],[],[]⟩ [] Tryz.f40 .no [.pair (.int .i64) (.int .i64)] [.leaf 3] (r)=Zqn r:=by kernel_rfl
theorem Zyx:Zj Tryz.prog ZBm.1 ZBm.2:=Zn (C:=⟨Tryz.prog,[(39,0),(41,2),(43,3)],[ZCh,Z3j],[],[],[],[],[]⟩) ⟨Zsq,qnew_k,trivial⟩ trivial trivial trivial (inl:=[]) trivial (ann:=.no) Tryz.func40 (fun _ _=>by kernel_rfl) rfl fun v vals x z ha hz=>(ZNv x).trans (ZGx hz)
end Go.Eng
set_option maxRecDepth 100000
set_option maxHeartbeats 4000000
namespace Go.Eng
open Go.Proofs Go.RowKit
noncomputable def Zub:FuncId×Con:=(173,⟨[.slice (.int .u32)],[.leaf 1],fun p=>Zmb p⟩)
theorem rcut_i (a:(List Int)):Zk ⟨Tryz.prog,[],[],[],[],[],[],[]⟩ [] Tryz.f173 (.two .no (.two .no (.two (.cut ⟨⟨[],[],[]⟩,[(.norm,⟨[0],[],[.s 3 (.dat (.int .i64))]⟩)]⟩ (.two (.cut ⟨⟨[0],[],[.s 3 (.dat (.int .i64))]⟩,[(.exit 0,⟨[0],[],[.s 3 (.dat (.int .i64))]⟩)]⟩ (.two (.two (.two (.cut ⟨⟨[],[],[]⟩,[(.norm,⟨[0,3],[],[.s 15 (.dat .bool)]⟩)]⟩ .no) .no) .no) .no)) .no)) .no))) [.slice (.int .u32)] [.slice (.int .u32)] (a)=Ztp a:=by kernel_rfl
theorem Zqf:Zj Tryz.prog Zub.1 Zub.2:=Zil (C:=⟨Tryz.prog,[],[],[],[],[],[],[]⟩) trivial trivial trivial trivial (inl:=[]) trivial (ann:=.two .no (.two .no (.two (.cut ⟨⟨[],[],[]⟩,[(.norm,⟨[0],[],[.s 3 (.dat (.int .i64))]⟩)]⟩ (.two (.cut ⟨⟨[0],[],[.s 3 (.dat (.int .i64))]⟩,[(.exit 0,⟨[0],[],[.s 3 (.dat (.int .i64))]⟩)]⟩ (.two (.two (.two (.cut ⟨⟨[],[],[]⟩,[(.norm,⟨[0,3],[],[.s 15 (.dat .bool)]⟩)]⟩ .no) .no) .no) .no)) .no)) .no))) (ats:=[.slice (.int .u32)]) (rts:=[.slice (.int .u32)]) (fun x=>(x)) (fun z=>(Zc 4294967296 z)) (fun _ _ _ h=>h) (fun _ _ _ h=>h) Tryz.func173 (fun _ _=>by kernel_rfl) rfl fun v vals x z ha hz=>by obtain ⟨c0,e0,p0⟩:=ha;exact (rcut_i x).trans (by cases hz;exact (rcut_eq (Zwo p0).1 (Zwo p0).2))
end Go.Eng
set_option maxRecDepth 100000
set_option maxHeartbeats 4000000
namespace Go.Eng
open Go.Proofs Go.RowKit
noncomputable def ZZg:FuncId×Con:=(136,⟨[.int .u64],[.leaf 1],fun p=>Zgd p⟩)
theorem rnat_i (n:Int):Zk ⟨Tryz.prog,[(91,1),(93,4)],[Zub],[],[],[],[],[]⟩ [] Tryz.f136 .no [.int .u64] [.leaf 1] (n)=ZQn n:=by kernel_rfl
theorem ZOq:Zj Tryz.prog ZZg.1 ZZg.2:=Zn (C:=⟨Tryz.prog,[(91,1),(93,4)],[Zub],[],[],[],[],[]⟩) ⟨Zqf,trivial⟩ trivial trivial trivial (inl:=[]) trivial (ann:=.no) Tryz.func136 (fun _ _=>by kernel_rfl) rfl fun v vals x z ha hz=>by obtain ⟨c0,e0,p0⟩:=ha;exact (rnat_i x).trans (Zav p0.2 hz)
end Go.Eng
set_option maxRecDepth 100000
set_option maxHeartbeats 4000000
namespace Go.Eng
open Go.Proofs Go.RowKit
noncomputable def Zef:FuncId×Con:=(155,⟨[.leaf 1,.leaf 1],[.int .i64],fun p=>Zqd p.1 p.2⟩)
theorem Zpu (a:Nat) (b:Nat):Zk ⟨Tryz.prog,[(91,1),(93,4)],[],[],[],[],[],[]⟩ [] Tryz.f155 (.two .no (.two .no (.two .no (.two (.two .no (.cut ⟨⟨[],[],[]⟩,[(.norm,⟨[],[],[]⟩),(.ret,⟨[],[],[.s 1000 (.dat (.int .i64))]⟩)]⟩ (.two (.cut ⟨⟨[0,1],[],[.s 5 (.dat (.int .i64))]⟩,[(.ret,⟨[],[],[.s 1000 (.dat (.int .i64))]⟩),(.exit 0,⟨[],[],[]⟩)]⟩ .no) .no))) .no)))) [.leaf 1,.leaf 1] [.int .i64] (a,b)=Z8n a b:=by kernel_rfl
theorem Z7o:Zj Tryz.prog Zef.1 Zef.2:=Zn (C:=⟨Tryz.prog,[(91,1),(93,4)],[],[],[],[],[],[]⟩) trivial trivial trivial trivial (inl:=[]) trivial (ann:=.two .no (.two .no (.two .no (.two (.two .no (.cut ⟨⟨[],[],[]⟩,[(.norm,⟨[],[],[]⟩),(.ret,⟨[],[],[.s 1000 (.dat (.int .i64))]⟩)]⟩ (.two (.cut ⟨⟨[0,1],[],[.s 5 (.dat (.int .i64))]⟩,[(.ret,⟨[],[],[.s 1000 (.dat (.int .i64))]⟩),(.exit 0,⟨[],[],[]⟩)]⟩ .no) .no))) .no)))) Tryz.func155 (fun _ _=>by kernel_rfl) rfl fun v vals x z ha hz=>by obtain ⟨c0,w0,e0,p0,c1,e1,p1⟩:=ha;exact (Zpu x.1 x.2).trans ((Zsu (ZCq p0) (ZCq p1)).trans hz)
end Go.Eng
set_option maxRecDepth 100000
set_option maxHeartbeats 4000000
namespace Go.Eng
open Go.Proofs Go.RowKit
noncomputable def Z3h:FuncId×Con:=(181,⟨[.leaf 1,.int .u32],[.leaf 1,.int .u32],fun p=>ZLf p.1 p.2⟩)
theorem Zzx (a:Nat) (b:Int):Zk ⟨Tryz.prog,[(91,1),(93,4)],[Zub],[],[],[],[],[]⟩ [] Tryz.f181 (.two .no (.two .no (.two .no (.two (.two .no (.cut ⟨⟨[],[],[]⟩,[(.norm,⟨[],[],[.s 6 (.own 185 (.int .u32)),.s 7 (.dat (.int .u64))]⟩)]⟩ (.two (.cut ⟨⟨[0,1],[],[.s 6 (.own 185 (.int .u32)),.s 7 (.dat (.int .u64)),.s 8 (.dat (.int .i64))]⟩,[(.exit 0,⟨[],[],[.s 6 (.own 185 (.int .u32)),.s 7 (.dat (.int .u64))]⟩)]⟩ .no) .no))) .no)))) [.leaf 1,.int .u32] [.leaf 1,.int .u32] (a,b)=ZKm a b:=by kernel_rfl
theorem ZAr:Zj Tryz.prog Z3h.1 Z3h.2:=Zn (C:=⟨Tryz.prog,[(91,1),(93,4)],[Zub],[],[],[],[],[]⟩) ⟨Zqf,trivial⟩ trivial trivial trivial (inl:=[]) trivial (ann:=.two .no (.two .no (.two .no (.two (.two .no (.cut ⟨⟨[],[],[]⟩,[(.norm,⟨[],[],[.s 6 (.own 185 (.int .u32)),.s 7 (.dat (.int .u64))]⟩)]⟩ (.two (.cut ⟨⟨[0,1],[],[.s 6 (.own 185 (.int .u32)),.s 7 (.dat (.int .u64)),.s 8 (.dat (.int .i64))]⟩,[(.exit 0,⟨[],[],[.s 6 (.own 185 (.int .u32)),.s 7 (.dat (.int .u64))]⟩)]⟩ .no) .no))) .no)))) Tryz.func181 (fun _ _=>by kernel_rfl) rfl fun v vals x z ha hz=>by obtain ⟨c0,w0,e0,p0,c1,e1,p1⟩:=ha;exact (Zzx x.1 x.2).trans (Zyu p1.2 hz)
end Go.Eng
set_option maxRecDepth 100000
set_option maxHeartbeats 4000000
namespace Go.Eng
open Go.Proofs Go.RowKit
noncomputable def Zml:FuncId×Con:=(186,⟨[.leaf 1],[.int .i64],fun p=>ZOg p⟩)
theorem rbits_i (a:Nat):Zk ⟨Tryz.prog,[(91,1),(93,4)],[],[],[],[],[],[]⟩ [] Tryz.f186 (.two .no (.two .no (.two .no (.two (.two .no (.cut ⟨⟨[],[],[]⟩,[(.norm,⟨[],[],[.s 3 (.dat (.int .i64))]⟩)]⟩ (.two (.cut ⟨⟨[],[],[.s 3 (.dat (.int .i64)),.s 4 (.dat (.int .u32))]⟩,[(.exit 0,⟨[],[],[.s 3 (.dat (.int .i64))]⟩)]⟩ .no) .no))) .no)))) [.leaf 1] [.int .i64] (a)=Zlm a:=by kernel_rfl
theorem rbits_k:Zj Tryz.prog Zml.1 Zml.2:=Zn (C:=⟨Tryz.prog,[(91,1),(93,4)],[],[],[],[],[],[]⟩) trivial trivial trivial trivial (inl:=[]) trivial (ann:=.two .no (.two .no (.two .no (.two (.two .no (.cut ⟨⟨[],[],[]⟩,[(.norm,⟨[],[],[.s 3 (.dat (.int .i64))]⟩)]⟩ (.two (.cut ⟨⟨[],[],[.s 3 (.dat (.int .i64)),.s 4 (.dat (.int .u32))]⟩,[(.exit 0,⟨[],[],[.s 3 (.dat (.int .i64))]⟩)]⟩ .no) .no))) .no)))) Tryz.func186 (fun _ _=>by kernel_rfl) rfl fun v vals x z ha hz=>(rbits_i x).trans (ZEx hz)
end Go.Eng
set_option maxRecDepth 100000
set_option maxHeartbeats 4000000
namespace Go.Eng
open Go.Proofs Go.RowKit
noncomputable def ZHk:FuncId×Con:=(187,⟨[.leaf 1,.int .i64],[.leaf 1],fun p=>ZEe p.1 p.2⟩)
theorem ZYv (a:Nat) (n:Int):Zk ⟨Tryz.prog,[(91,1),(93,4)],[Zub],[],[],[],[],[]⟩ [] Tryz.f187 (.two .no (.two .no (.two .no (.two .no (.two (.two .no (.cut ⟨⟨[],[],[]⟩,[(.norm,⟨[],[],[.s 5 (.own 185 (.int .u32)),.s 6 (.dat (.int .u64))]⟩)]⟩ (.two (.cut ⟨⟨[0,1],[],[.s 5 (.own 185 (.int .u32)),.s 6 (.dat (.int .u64)),.s 7 (.dat (.int .i64))]⟩,[(.exit 0,⟨[],[],[.s 5 (.own 185 (.int .u32)),.s 6 (.dat (.int .u64))]⟩)]⟩ .no) .no))) .no))))) [.leaf 1,.int .i64] [.leaf 1] (a,n)=Zwm a n:=by kernel_rfl
theorem Zkw:Zj Tryz.prog ZHk.1 ZHk.2:=Zn (C:=⟨Tryz.prog,[(91,1),(93,4)],[Zub],[],[],[],[],[]⟩) ⟨Zqf,trivial⟩ trivial trivial trivial (inl:=[]) trivial (ann:=.two .no (.two .no (.two .no (.two .no (.two (.two .no (.cut ⟨⟨[],[],[]⟩,[(.norm,⟨[],[],[.s 5 (.own 185 (.int .u32)),.s 6 (.dat (.int .u64))]⟩)]⟩ (.two (.cut ⟨⟨[0,1],[],[.s 5 (.own 185 (.int .u32)),.s 6 (.dat (.int .u64)),.s 7 (.dat (.int .i64))]⟩,[(.exit 0,⟨[],[],[.s 5 (.own 185 (.int .u32)),.s 6 (.dat (.int .u64))]⟩)]⟩ .no) .no))) .no))))) Tryz.func187 (fun _ _=>by kernel_rfl) rfl fun v vals x z ha hz=>(ZYv x.1 x.2).trans (ZVv hz)
end Go.Eng
set_option maxRecDepth 100000
set_option maxHeartbeats 4000000
namespace Go.Eng
open Go.Proofs Go.RowKit
noncomputable def ZCd:FuncId×Con:=(188,⟨[.leaf 1,.leaf 1],[.leaf 1],fun p=>Zra p.1 p.2⟩)
theorem rprod_i (a:Nat) (b:Nat):Zk ⟨Tryz.prog,[(91,1),(93,4)],[Zub],[],[],[],[],[]⟩ [] Tryz.f188 (.two .no (.two .no (.two (.two .no (.cut ⟨⟨[],[],[]⟩,[(.norm,⟨[],[],[.s 5 (.own 185 (.int .u32))]⟩)]⟩ (.two (.cut ⟨⟨[0,1],[],[.s 5 (.own 185 (.int .u32)),.s 6 (.dat (.int .i64))]⟩,[(.exit 0,⟨[],[],[.s 5 (.own 185 (.int .u32))]⟩)]⟩ (.two (.two .no (.two (.two (.two .no (.two (.two .no (.cut ⟨⟨[],[],[]⟩,[(.norm,⟨[0,1,6],[],[.s 5 (.own 185 (.int .u32)),.s 7 (.dat (.int .u64))]⟩)]⟩ (.two (.cut ⟨⟨[0,1,6],[],[.s 5 (.own 185 (.int .u32)),.s 7 (.dat (.int .u64)),.s 8 (.dat (.int .i64))]⟩,[(.exit 2,⟨[0,1,6],[],[.s 5 (.own 185 (.int .u32)),.s 7 (.dat (.int .u64))]⟩)]⟩ .no) .no))) .no)) .no) .no)) .no)) .no))) .no))) [.leaf 1,.leaf 1] [.leaf 1] (a,b)=ZBk a b:=by kernel_rfl
theorem Zom:Zj Tryz.prog ZCd.1 ZCd.2:=Zn (C:=⟨Tryz.prog,[(91,1),(93,4)],[Zub],[],[],[],[],[]⟩) ⟨Zqf,trivial⟩ trivial trivial trivial (inl:=[]) trivial (ann:=.two .no (.two .no (.two (.two .no (.cut ⟨⟨[],[],[]⟩,[(.norm,⟨[],[],[.s 5 (.own 185 (.int .u32))]⟩)]⟩ (.two (.cut ⟨⟨[0,1],[],[.s 5 (.own 185 (.int .u32)),.s 6 (.dat (.int .i64))]⟩,[(.exit 0,⟨[],[],[.s 5 (.own 185 (.int .u32))]⟩)]⟩ (.two (.two .no (.two (.two (.two .no (.two (.two .no (.cut ⟨⟨[],[],[]⟩,[(.norm,⟨[0,1,6],[],[.s 5 (.own 185 (.int .u32)),.s 7 (.dat (.int .u64))]⟩)]⟩ (.two (.cut ⟨⟨[0,1,6],[],[.s 5 (.own 185 (.int .u32)),.s 7 (.dat (.int .u64)),.s 8 (.dat (.int .i64))]⟩,[(.exit 2,⟨[0,1,6],[],[.s 5 (.own 185 (.int .u32)),.s 7 (.dat (.int .u64))]⟩)]⟩ .no) .no))) .no)) .no) .no)) .no)) .no))) .no))) Tryz.func188 (fun _ _=>by kernel_rfl) rfl fun v vals x z ha hz=>(rprod_i x.1 x.2).trans (ZIt hz)
end Go.Eng
set_option maxRecDepth 100000
set_option maxHeartbeats 4000000
namespace Go.Eng
open Go.Proofs Go.RowKit
noncomputable def ZMg:FuncId×Con:=(189,⟨[.leaf 1,.leaf 1],[.leaf 1],fun p=>ZYb p.1 p.2⟩)
theorem rdif_i (a:Nat) (b:Nat):Zk ⟨Tryz.prog,[(91,1),(93,4)],[Zub],[],[],[],[],[]⟩ [] Tryz.f189 (.two .no (.two .no (.two .no (.two (.two .no (.cut ⟨⟨[],[],[]⟩,[(.norm,⟨[],[],[.s 5 (.own 185 (.int .u32))]⟩)]⟩ (.two (.cut ⟨⟨[0,1],[],[.s 5 (.own 185 (.int .u32)),.s 6 (.dat (.int .i64)),.s 7 (.dat (.int .i64))]⟩,[(.exit 0,⟨[],[],[.s 5 (.own 185 (.int .u32))]⟩)]⟩ (.two (.two .no (.two (.two (.two .no (.two (.two .no (.cut ⟨⟨[],[],[]⟩,[(.norm,⟨[0,1,5,7],[],[.s 8 (.dat (.int .i64))]⟩)]⟩ .no)) (.two .no (.two (.two .no (.cut ⟨⟨[],[],[]⟩,[(.norm,⟨[0,1,5,7],[],[.s 6 (.dat (.int .i64)),.s 8 (.dat (.int .i64))]⟩)]⟩ .no)) .no)))) .no) .no)) .no)) .no))) .no)))) [.leaf 1,.leaf 1] [.leaf 1] (a,b)=Z4k a b:=by kernel_rfl
theorem Z2q:Zj Tryz.prog ZMg.1 ZMg.2:=Zn (C:=⟨Tryz.prog,[(91,1),(93,4)],[Zub],[],[],[],[],[]⟩) ⟨Zqf,trivial⟩ trivial trivial trivial (inl:=[]) trivial (ann:=.two .no (.two .no (.two .no (.two (.two .no (.cut ⟨⟨[],[],[]⟩,[(.norm,⟨[],[],[.s 5 (.own 185 (.int .u32))]⟩)]⟩ (.two (.cut ⟨⟨[0,1],[],[.s 5 (.own 185 (.int .u32)),.s 6 (.dat (.int .i64)),.s 7 (.dat (.int .i64))]⟩,[(.exit 0,⟨[],[],[.s 5 (.own 185 (.int .u32))]⟩)]⟩ (.two (.two .no (.two (.two (.two .no (.two (.two .no (.cut ⟨⟨[],[],[]⟩,[(.norm,⟨[0,1,5,7],[],[.s 8 (.dat (.int .i64))]⟩)]⟩ .no)) (.two .no (.two (.two .no (.cut ⟨⟨[],[],[]⟩,[(.norm,⟨[0,1,5,7],[],[.s 6 (.dat (.int .i64)),.s 8 (.dat (.int .i64))]⟩)]⟩ .no)) .no)))) .no) .no)) .no)) .no))) .no)))) Tryz.func189 (fun _ _=>by kernel_rfl) rfl fun v vals x z ha hz=>(rdif_i x.1 x.2).trans (ZHu hz)
end Go.Eng
set_option maxRecDepth 100000
set_option maxHeartbeats 4000000
namespace Go.Eng
open Go.Proofs Go.RowKit
noncomputable def ZIm:FuncId×Con:=(190,⟨[.leaf 1,.int .i64],[.leaf 1],fun p=>Zvh p.1 p.2⟩)
theorem Zpx (a:Nat) (n:Int):Zk ⟨Tryz.prog,[(91,1),(93,4)],[Zub],[],[],[],[],[]⟩ [] Tryz.f190 (.two .no (.two .no (.two (.two .no (.cut ⟨⟨[],[],[]⟩,[(.norm,⟨[],[],[.s 5 (.own 185 (.int .u32))]⟩)]⟩ (.two (.cut ⟨⟨[0,1],[],[.s 5 (.own 185 (.int .u32)),.s 6 (.dat (.int .i64))]⟩,[(.exit 0,⟨[],[],[.s 5 (.own 185 (.int .u32))]⟩)]⟩ (.two (.two .no (.two (.two (.two .no (.two (.two .no (.cut ⟨⟨[],[],[]⟩,[(.norm,⟨[0,1,5,6],[],[.s 7 (.dat (.int .u64))]⟩)]⟩ .no)) .no)) .no) .no)) .no)) .no))) .no))) [.leaf 1,.int .i64] [.leaf 1] (a,n)=ZQj a n:=by kernel_rfl
theorem ZFv:Zj Tryz.prog ZIm.1 ZIm.2:=Zn (C:=⟨Tryz.prog,[(91,1),(93,4)],[Zub],[],[],[],[],[]⟩) ⟨Zqf,trivial⟩ trivial trivial trivial (inl:=[]) trivial (ann:=.two .no (.two .no (.two (.two .no (.cut ⟨⟨[],[],[]⟩,[(.norm,⟨[],[],[.s 5 (.own 185 (.int .u32))]⟩)]⟩ (.two (.cut ⟨⟨[0,1],[],[.s 5 (.own 185 (.int .u32)),.s 6 (.dat (.int .i64))]⟩,[(.exit 0,⟨[],[],[.s 5 (.own 185 (.int .u32))]⟩)]⟩ (.two (.two .no (.two (.two (.two .no (.two (.two .no (.cut ⟨⟨[],[],[]⟩,[(.norm,⟨[0,1,5,6],[],[.s 7 (.dat (.int .u64))]⟩)]⟩ .no)) .no)) .no) .no)) .no)) .no))) .no))) Tryz.func190 (fun _ _=>by kernel_rfl) rfl fun v vals x z ha hz=>by obtain ⟨c0,w0,e0,p0,c1,e1,p1⟩:=ha;exact (Zpx x.1 x.2).trans (Z7y p1.2 hz)
end Go.Eng
set_option maxRecDepth 100000
set_option maxHeartbeats 4000000
namespace Go.Eng
open Go.Proofs Go.RowKit
noncomputable def Zah:FuncId×Con:=(172,⟨[.leaf 1,.leaf 1],[.leaf 1,.leaf 1],fun p=>Z0c p.1 p.2⟩)
theorem rquot_i (a:Nat) (b:Nat):Zk ⟨Tryz.prog,[(91,1),(93,4)],[ZZg,Zef,Zub,Z3h,Zml,ZHk,ZCd,ZMg,ZIm],[],[],[],[],[]⟩ [] Tryz.f172 (.two .no (.two .no (.two .no (.two .no (.two .no (.two .no (.two .no (.two (.two .no (.cut ⟨⟨[],[],[]⟩,[(.norm,⟨[8],[],[.s 10 (.dat (.leaf 1)),.s 12 (.own 185 (.int .u32))]⟩)]⟩ (.two (.cut ⟨⟨[8,9,11],[],[.s 10 (.dat (.leaf 1)),.s 12 (.own 185 (.int .u32)),.s 13 (.dat (.int .i64))]⟩,[(.exit 0,⟨[8],[],[.s 10 (.dat (.leaf 1)),.s 12 (.own 185 (.int .u32))]⟩)]⟩ (.two (.two .no (.two (.cut ⟨⟨[],[],[]⟩,[(.norm,⟨[8,9,11,13],[],[.s 10 (.dat (.leaf 1)),.s 12 (.own 185 (.int .u32))]⟩)]⟩ (.two (.two .no (.two (.two .no (.cut ⟨⟨[],[],[]⟩,[(.norm,⟨[8,9,10,11,12,13],[],[.s 14 (.dat (.slice (.int .u32)))]⟩)]⟩ .no)) (.two .no (.two .no (.two (.two .no (.cut ⟨⟨[],[],[]⟩,[(.norm,⟨[8,9,10,11,12,13,14],[],[.s 15 (.dat (.int .u64))]⟩)]⟩ .no)) (.two .no (.two (.two .no (.cut ⟨⟨[],[],[]⟩,[(.norm,⟨[8,9,10,11,12,13,14],[],[.s 16 (.dat (.int .u64))]⟩)]⟩ .no)) (.two .no (.two (.cut ⟨⟨[],[],[]⟩,[(.norm,⟨[8,9,10,11,12,13,14],[],[.s 16 (.dat (.int .u64)),.s 17 (.dat (.leaf 1))]⟩)]⟩ (.two (.cut ⟨⟨[8,9,10,11,12,13,14],[],[.s 16 (.dat (.int .u64)),.s 17 (.dat (.leaf 1))]⟩,[(.exit 2,⟨[8,9,10,11,12,13,14],[],[.s 16 (.dat (.int .u64)),.s 17 (.dat (.leaf 1))]⟩)]⟩ .no) .no)) .no))))))))) .no)) .no)) .no)) .no))) .no)))))))) [.leaf 1,.leaf 1] [.leaf 1,.leaf 1] (a,b)=Z5l a b:=by kernel_rfl
theorem ZTr:Zj Tryz.prog Zah.1 Zah.2:=Zn (C:=⟨Tryz.prog,[(91,1),(93,4)],[ZZg,Zef,Zub,Z3h,Zml,ZHk,ZCd,ZMg,ZIm],[],[],[],[],[]⟩) ⟨ZOq,Z7o,Zqf,ZAr,rbits_k,Zkw,Zom,Z2q,ZFv,trivial⟩ trivial trivial trivial (inl:=[]) trivial (ann:=.two .no (.two .no (.two .no (.two .no (.two .no (.two .no (.two .no (.two (.two .no (.cut ⟨⟨[],[],[]⟩,[(.norm,⟨[8],[],[.s 10 (.dat (.leaf 1)),.s 12 (.own 185 (.int .u32))]⟩)]⟩ (.two (.cut ⟨⟨[8,9,11],[],[.s 10 (.dat (.leaf 1)),.s 12 (.own 185 (.int .u32)),.s 13 (.dat (.int .i64))]⟩,[(.exit 0,⟨[8],[],[.s 10 (.dat (.leaf 1)),.s 12 (.own 185 (.int .u32))]⟩)]⟩ (.two (.two .no (.two (.cut ⟨⟨[],[],[]⟩,[(.norm,⟨[8,9,11,13],[],[.s 10 (.dat (.leaf 1)),.s 12 (.own 185 (.int .u32))]⟩)]⟩ (.two (.two .no (.two (.two .no (.cut ⟨⟨[],[],[]⟩,[(.norm,⟨[8,9,10,11,12,13],[],[.s 14 (.dat (.slice (.int .u32)))]⟩)]⟩ .no)) (.two .no (.two .no (.two (.two .no (.cut ⟨⟨[],[],[]⟩,[(.norm,⟨[8,9,10,11,12,13,14],[],[.s 15 (.dat (.int .u64))]⟩)]⟩ .no)) (.two .no (.two (.two .no (.cut ⟨⟨[],[],[]⟩,[(.norm,⟨[8,9,10,11,12,13,14],[],[.s 16 (.dat (.int .u64))]⟩)]⟩ .no)) (.two .no (.two (.cut ⟨⟨[],[],[]⟩,[(.norm,⟨[8,9,10,11,12,13,14],[],[.s 16 (.dat (.int .u64)),.s 17 (.dat (.leaf 1))]⟩)]⟩ (.two (.cut ⟨⟨[8,9,10,11,12,13,14],[],[.s 16 (.dat (.int .u64)),.s 17 (.dat (.leaf 1))]⟩,[(.exit 2,⟨[8,9,10,11,12,13,14],[],[.s 16 (.dat (.int .u64)),.s 17 (.dat (.leaf 1))]⟩)]⟩ .no) .no)) .no))))))))) .no)) .no)) .no)) .no))) .no)))))))) Tryz.func172 (fun _ _=>by kernel_rfl) rfl fun v vals x z ha hz=>(rquot_i x.1 x.2).trans (Z9u hz)
end Go.Eng
set_option maxRecDepth 100000
set_option maxHeartbeats 4000000
namespace Go.Eng
open Go.Proofs Go.RowKit
noncomputable def Zfk:FuncId×Con:=(171,⟨[.leaf 1,.leaf 1],[.leaf 1],fun p=>rgcF p.1 p.2⟩)
theorem rgcd_i (a:Nat) (b:Nat):Zk ⟨Tryz.prog,[(91,1),(93,4)],[Zah],[],[],[],[],[]⟩ [] Tryz.f171 (.two .no (.two (.cut ⟨⟨[],[],[]⟩,[(.norm,⟨[],[],[.s 0 (.dat (.leaf 1))]⟩)]⟩ (.two (.cut ⟨⟨[],[],[.s 0 (.dat (.leaf 1)),.s 1 (.dat (.leaf 1))]⟩,[(.exit 0,⟨[],[],[.s 0 (.dat (.leaf 1))]⟩)]⟩ .no) .no)) .no)) [.leaf 1,.leaf 1] [.leaf 1] (a,b)=Zqm a b:=by kernel_rfl
theorem rgcd_k:Zj Tryz.prog Zfk.1 Zfk.2:=Zn (C:=⟨Tryz.prog,[(91,1),(93,4)],[Zah],[],[],[],[],[]⟩) ⟨ZTr,trivial⟩ trivial trivial trivial (inl:=[]) trivial (ann:=.two .no (.two (.cut ⟨⟨[],[],[]⟩,[(.norm,⟨[],[],[.s 0 (.dat (.leaf 1))]⟩)]⟩ (.two (.cut ⟨⟨[],[],[.s 0 (.dat (.leaf 1)),.s 1 (.dat (.leaf 1))]⟩,[(.exit 0,⟨[],[],[.s 0 (.dat (.leaf 1))]⟩)]⟩ .no) .no)) .no)) Tryz.func171 (fun _ _=>by kernel_rfl) rfl fun v vals x z ha hz=>(rgcd_i x.1 x.2).trans (rgcF_eq hz)
end Go.Eng
set_option maxRecDepth 100000
set_option maxHeartbeats 4000000
namespace Go.Eng
open Go.Proofs Go.RowKit
noncomputable def Zmc:FuncId×Con:=(135,⟨[.bool,.leaf 1,.leaf 1],[.leaf 4],fun p=>Zgb p.1 p.2.1 p.2.2⟩)
theorem rfrac_i (s:Bool) (n:Nat) (d:Nat):Zk ⟨Tryz.prog,[(91,1),(93,4)],[Zfk,Zah],[],[],[],[],[]⟩ [] Tryz.f135 .no [.bool,.leaf 1,.leaf 1] [.leaf 4] (s,n,d)=Z2o s n d:=by kernel_rfl
theorem Zci:Zj Tryz.prog Zmc.1 Zmc.2:=Zn (C:=⟨Tryz.prog,[(91,1),(93,4)],[Zfk,Zah],[],[],[],[],[]⟩) ⟨rgcd_k,ZTr,trivial⟩ trivial trivial trivial (inl:=[]) trivial (ann:=.no) Tryz.func135 (fun _ _=>by kernel_rfl) rfl fun v vals x z ha hz=>(rfrac_i x.1 x.2.1 x.2.2).trans (Zpt hz)
end Go.Eng
set_option maxRecDepth 100000
set_option maxHeartbeats 4000000
namespace Go.Eng
open Go.Proofs Go.RowKit
noncomputable def ZWa:FuncId×Con:=(91,⟨[.int .i64],[.leaf 4],fun p=>Zea p⟩)
theorem ZIw (n:Int):Zk ⟨Tryz.prog,[(91,1),(93,4)],[Zmc,ZZg],[],[],[],[],[]⟩ [] Tryz.f91 .no [.int .i64] [.leaf 4] (n)=Zgk n:=by kernel_rfl
theorem Z8d:Zj Tryz.prog ZWa.1 ZWa.2:=Zn (C:=⟨Tryz.prog,[(91,1),(93,4)],[Zmc,ZZg],[],[],[],[],[]⟩) ⟨Zci,ZOq,trivial⟩ trivial trivial trivial (inl:=[]) trivial (ann:=.no) Tryz.func91 (fun _ _=>by kernel_rfl) rfl fun v vals x z ha hz=>by obtain ⟨c0,e0,p0⟩:=ha;exact (ZIw x).trans (Zvw p0.2 hz)
end Go.Eng
set_option maxRecDepth 100000
set_option maxHeartbeats 4000000
namespace Go.Eng
open Go.Proofs Go.RowKit
noncomputable def Z7d:FuncId×Con:=(90,⟨[.leaf 4],[.pair (.leaf 4) (.pair (.leaf 4) (.pair (.leaf 4) (.leaf 4)))],fun p=>ZEd p⟩)
theorem sReal_i (x:Rat):Zk ⟨Tryz.prog,[(39,0),(41,2),(43,3),(91,1),(93,4)],[ZWa],[],[],[],[],[]⟩ [] Tryz.f90 .no [.leaf 4] [.pair (.leaf 4) (.pair (.leaf 4) (.pair (.leaf 4) (.leaf 4)))] (x)=ZEd x:=by kernel_rfl
theorem Zhk:Zj Tryz.prog Z7d.1 Z7d.2:=Zn (C:=⟨Tryz.prog,[(39,0),(41,2),(43,3),(91,1),(93,4)],[ZWa],[],[],[],[],[]⟩) ⟨Z8d,trivial⟩ trivial trivial trivial (inl:=[]) trivial (ann:=.no) Tryz.func90 (fun _ _=>by kernel_rfl) rfl (fun v vals x z ha hz=>(sReal_i x).trans hz)
end Go.Eng
set_option maxRecDepth 100000
set_option maxHeartbeats 4000000
namespace Go.Eng
open Go.Proofs Go.RowKit
noncomputable def Z1c:FuncId×Con:=(41,⟨[.leaf 4],[.pair (.pair (.leaf 4) (.pair (.leaf 4) (.pair (.leaf 4) (.leaf 4)))) (.pair (.leaf 4) (.pair (.leaf 4) (.pair (.leaf 4) (.leaf 4))))],fun p=>Zqe p⟩)
theorem wReal_i (x:Rat):Zk ⟨Tryz.prog,[(39,0),(41,2),(43,3),(91,1),(93,4)],[Z7d,ZWa],[],[],[],[],[]⟩ [] Tryz.f41 .no [.leaf 4] [.pair (.pair (.leaf 4) (.pair (.leaf 4) (.pair (.leaf 4) (.leaf 4)))) (.pair (.leaf 4) (.pair (.leaf 4) (.pair (.leaf 4) (.leaf 4))))] (x)=Zqe x:=by kernel_rfl
theorem Zoj:Zj Tryz.prog Z1c.1 Z1c.2:=Zn (C:=⟨Tryz.prog,[(39,0),(41,2),(43,3),(91,1),(93,4)],[Z7d,ZWa],[],[],[],[],[]⟩) ⟨Zhk,Z8d,trivial⟩ trivial trivial trivial (inl:=[]) trivial (ann:=.no) Tryz.func41 (fun _ _=>by kernel_rfl) rfl (fun v vals x z ha hz=>(wReal_i x).trans hz)
end Go.Eng
set_option maxRecDepth 100000
set_option maxHeartbeats 4000000
namespace Go.Eng
open Go.Proofs Go.RowKit
noncomputable def Zvk:FuncId×Con:=(92,⟨[.int .i64,.int .i64],[.leaf 4,.int .i64],fun p=>Z4i p.1 p.2⟩)
theorem rnew_i (n:Int) (d:Int):Zk ⟨Tryz.prog,[(91,1),(93,4)],[ZWa,Zmc],[],[],[],[],[]⟩ [] Tryz.f92 .no [.int .i64,.int .i64] [.leaf 4,.int .i64] (n,d)=ZZn n d:=by kernel_rfl
theorem rnew_k:Zj Tryz.prog Zvk.1 Zvk.2:=Zn (C:=⟨Tryz.prog,[(91,1),(93,4)],[ZWa,Zmc],[],[],[],[],[]⟩) ⟨Z8d,Zci,trivial⟩ trivial trivial trivial (inl:=[]) trivial (ann:=.no) Tryz.func92 (fun _ _=>by kernel_rfl) rfl fun v vals x z ha hz=>by obtain ⟨c0,w0,e0,p0,c1,e1,p1⟩:=ha;exact (rnew_i x.1 x.2).trans (ZFt p0.2 p1.2 hz)
end Go.Eng
set_option maxRecDepth 100000
set_option maxHeartbeats 4000000
namespace Go.Eng
open Go.Proofs Go.RowKit
noncomputable def ZVh:FuncId×Con:=(42,⟨[.pair (.int .i64) (.int .i64)],[.leaf 4],fun p=>rofF p⟩)
theorem rof_i (r:(Int×Int)):Zk ⟨Tryz.prog,[(91,1),(93,4)],[ZWa,Zvk],[],[],[],[],[]⟩ [] Tryz.f42 .no [.pair (.int .i64) (.int .i64)] [.leaf 4] (r)=rof_m r:=by kernel_rfl
theorem rof_k:Zj Tryz.prog ZVh.1 ZVh.2:=Zn (C:=⟨Tryz.prog,[(91,1),(93,4)],[ZWa,Zvk],[],[],[],[],[]⟩) ⟨Z8d,rnew_k,trivial⟩ trivial trivial trivial (inl:=[]) trivial (ann:=.no) Tryz.func42 (fun _ _=>by kernel_rfl) rfl fun v vals x z ha hz=>(rof_i x).trans (rofF_eq hz)
end Go.Eng
set_option maxRecDepth 100000
set_option maxHeartbeats 4000000
namespace Go.Eng
open Go.Proofs Go.RowKit
noncomputable def Zdf:FuncId×Con:=(10,⟨[.slice (.pair (.int .i64) (.int .i64))],[.slice (.leaf 3),.slice (.pair (.pair (.leaf 4) (.pair (.leaf 4) (.pair (.leaf 4) (.leaf 4)))) (.pair (.leaf 4) (.pair (.leaf 4) (.pair (.leaf 4) (.leaf 4)))))],fun p=>ZOf p⟩)
theorem list2_i (l:List (Int×Int)):Zk ⟨Tryz.prog,[(39,0),(41,2),(43,3),(91,1),(93,4)],[ZBm,Z1c,ZVh],[],[],[],[],[]⟩ [] Tryz.f10 (.two .no (.two .no (.two .no (.two (.two .no (.two (.cut ⟨⟨[8,9],[],[.s 4 (.own 43 (.leaf 3)),.s 5 (.own 97 (.pair (.pair (.leaf 4) (.pair (.leaf 4) (.pair (.leaf 4) (.leaf 4)))) (.pair (.leaf 4) (.pair (.leaf 4) (.pair (.leaf 4) (.leaf 4)))))),.s 10 (.dat (.int .i64))]⟩,[(.exit 0,⟨[],[],[.s 4 (.own 43 (.leaf 3)),.s 5 (.own 97 (.pair (.pair (.leaf 4) (.pair (.leaf 4) (.pair (.leaf 4) (.leaf 4)))) (.pair (.leaf 4) (.pair (.leaf 4) (.pair (.leaf 4) (.leaf 4))))))]⟩)]⟩ .no) .no)) .no)))) [.slice (.pair (.int .i64) (.int .i64))] [.slice (.leaf 3),.slice (.pair (.pair (.leaf 4) (.pair (.leaf 4) (.pair (.leaf 4) (.leaf 4)))) (.pair (.leaf 4) (.pair (.leaf 4) (.pair (.leaf 4) (.leaf 4)))))] (l)=ZOf l:=by kernel_rfl
theorem Zvo:Zj Tryz.prog Zdf.1 Zdf.2:=Zn (C:=⟨Tryz.prog,[(39,0),(41,2),(43,3),(91,1),(93,4)],[ZBm,Z1c,ZVh],[],[],[],[],[]⟩) ⟨Zyx,Zoj,rof_k,trivial⟩ trivial trivial trivial (inl:=[]) trivial (ann:=(.two .no (.two .no (.two .no (.two (.two .no (.two (.cut ⟨⟨[8,9],[],[.s 4 (.own 43 (.leaf 3)),.s 5 (.own 97 (.pair (.pair (.leaf 4) (.pair (.leaf 4) (.pair (.leaf 4) (.leaf 4)))) (.pair (.leaf 4) (.pair (.leaf 4) (.pair (.leaf 4) (.leaf 4)))))),.s 10 (.dat (.int .i64))]⟩,[(.exit 0,⟨[],[],[.s 4 (.own 43 (.leaf 3)),.s 5 (.own 97 (.pair (.pair (.leaf 4) (.pair (.leaf 4) (.pair (.leaf 4) (.leaf 4)))) (.pair (.leaf 4) (.pair (.leaf 4) (.pair (.leaf 4) (.leaf 4))))))]⟩)]⟩ .no) .no)) .no))))) Tryz.func10 (fun _ _=>by kernel_rfl) rfl (fun v vals x z ha hz=>(list2_i x).trans hz)
end Go.Eng
set_option maxRecDepth 100000
set_option maxHeartbeats 4000000
namespace Go.Eng
open Go.Proofs Go.RowKit
noncomputable def ZFf:FuncId×Con:=(9,⟨[.slice (.slice (.pair (.int .i64) (.int .i64)))],[.slice (.slice (.leaf 3)),.slice (.slice (.pair (.pair (.leaf 4) (.pair (.leaf 4) (.pair (.leaf 4) (.leaf 4)))) (.pair (.leaf 4) (.pair (.leaf 4) (.pair (.leaf 4) (.leaf 4))))))],fun p=>ZUe p⟩)
theorem rows2_i (m:List (List (Int×Int))):Zk ⟨Tryz.prog,[(39,0),(41,2),(43,3),(91,1),(93,4)],[Zdf],[],[],[],[],[]⟩ [] Tryz.f9 (.two .no (.two .no (.two (.two .no (.two (.cut ⟨⟨[0,4,5,14],[],[.s 15 (.dat (.int .i64)),.l (.sl 4) (.own 30 (.slice (.leaf 3))),.l (.sl 5) (.own 31 (.slice (.pair (.pair (.leaf 4) (.pair (.leaf 4) (.pair (.leaf 4) (.leaf 4)))) (.pair (.leaf 4) (.pair (.leaf 4) (.pair (.leaf 4) (.leaf 4)))))))]⟩,[(.exit 0,⟨[4,5],[],[.l (.sl 4) (.own 30 (.slice (.leaf 3))),.l (.sl 5) (.own 31 (.slice (.pair (.pair (.leaf 4) (.pair (.leaf 4) (.pair (.leaf 4) (.leaf 4)))) (.pair (.leaf 4) (.pair (.leaf 4) (.pair (.leaf 4) (.leaf 4)))))))]⟩)]⟩ .no) .no)) .no))) [.slice (.slice (.pair (.int .i64) (.int .i64)))] [.slice (.slice (.leaf 3)),.slice (.slice (.pair (.pair (.leaf 4) (.pair (.leaf 4) (.pair (.leaf 4) (.leaf 4)))) (.pair (.leaf 4) (.pair (.leaf 4) (.pair (.leaf 4) (.leaf 4))))))] (m)=ZUe m:=by kernel_rfl
theorem Zao:Zj Tryz.prog ZFf.1 ZFf.2:=Zn (C:=⟨Tryz.prog,[(39,0),(41,2),(43,3),(91,1),(93,4)],[Zdf],[],[],[],[],[]⟩) ⟨Zvo,trivial⟩ trivial trivial trivial (inl:=[]) trivial (ann:=(.two .no (.two .no (.two (.two .no (.two (.cut ⟨⟨[0,4,5,14],[],[.s 15 (.dat (.int .i64)),.l (.sl 4) (.own 30 (.slice (.leaf 3))),.l (.sl 5) (.own 31 (.slice (.pair (.pair (.leaf 4) (.pair (.leaf 4) (.pair (.leaf 4) (.leaf 4)))) (.pair (.leaf 4) (.pair (.leaf 4) (.pair (.leaf 4) (.leaf 4)))))))]⟩,[(.exit 0,⟨[4,5],[],[.l (.sl 4) (.own 30 (.slice (.leaf 3))),.l (.sl 5) (.own 31 (.slice (.pair (.pair (.leaf 4) (.pair (.leaf 4) (.pair (.leaf 4) (.leaf 4)))) (.pair (.leaf 4) (.pair (.leaf 4) (.pair (.leaf 4) (.leaf 4)))))))]⟩)]⟩ .no) .no)) .no)))) Tryz.func9 (fun _ _=>by kernel_rfl) rfl (fun v vals x z ha hz=>(rows2_i x).trans hz)
end Go.Eng
set_option maxRecDepth 100000
set_option maxHeartbeats 4000000
namespace Go.Eng
open Go.Proofs Go.RowKit
noncomputable def Znf:FuncId×Con:=(47,⟨[.slice (.slice (.leaf 3))],[.int .i64],fun p=>Z3d p⟩)
theorem Z8x (m:List (List Rat)):Zk ⟨Tryz.prog,[(39,0),(41,2),(43,3),(91,1),(93,4)],[],[],[],[],[],[]⟩ [] Tryz.f47 .no [.slice (.slice (.leaf 3))] [.int .i64] (m)=Z3d m:=by kernel_rfl
theorem Zkn:Zj Tryz.prog Znf.1 Znf.2:=Zn (C:=⟨Tryz.prog,[(39,0),(41,2),(43,3),(91,1),(93,4)],[],[],[],[],[],[]⟩) trivial trivial trivial trivial (inl:=[]) trivial (ann:=.no) Tryz.func47 (fun _ _=>by kernel_rfl) rfl (fun v vals x z ha hz=>(Z8x x).trans hz)
end Go.Eng
set_option maxRecDepth 100000
set_option maxHeartbeats 4000000
namespace Go.Eng
open Go.Proofs Go.RowKit
noncomputable def Zgf:FuncId×Con:=(43,⟨[.slice (.slice (.leaf 3))],[.bool],fun p=>Zzd p⟩)
theorem Z6y (m:List (List Rat)):Zk ⟨Tryz.prog,[(39,0),(41,2),(43,3),(91,1),(93,4)],[Znf],[],[],[],[],[]⟩ [(93,Tryz.f93,.no),(94,Tryz.f94,.no),(137,Tryz.f137,.cut ⟨⟨[],[],[]⟩,[(.ret,⟨[],[],[.s 1000 (.dat (.int .i64))]⟩)]⟩ (.two .no (.two (.two .no (.two (.cut ⟨⟨[0,1,7],[],[.s 8 (.dat (.int .i64))]⟩,[(.exit 0,⟨[],[],[]⟩),(.ret,⟨[],[],[.s 1000 (.dat (.int .i64))]⟩)]⟩ .no) .no)) .no)))] Tryz.f43 (.two .no (.two .no (.two (.cut ⟨⟨[],[],[]⟩,[(.norm,⟨[],[],[.s 2 (.dat .bool)]⟩)]⟩ .no) .no))) [.slice (.slice (.leaf 3))] [.bool] (m)=Zzd m:=by kernel_rfl
theorem ZVo:Zj Tryz.prog Zgf.1 Zgf.2:=Zn (C:=⟨Tryz.prog,[(39,0),(41,2),(43,3),(91,1),(93,4)],[Znf],[],[],[],[],[]⟩) ⟨Zkn,trivial⟩ trivial trivial trivial (inl:=[(93,Tryz.f93,.no),(94,Tryz.f94,.no),(137,Tryz.f137,.cut ⟨⟨[],[],[]⟩,[(.ret,⟨[],[],[.s 1000 (.dat (.int .i64))]⟩)]⟩ (.two .no (.two (.two .no (.two (.cut ⟨⟨[0,1,7],[],[.s 8 (.dat (.int .i64))]⟩,[(.exit 0,⟨[],[],[]⟩),(.ret,⟨[],[],[.s 1000 (.dat (.int .i64))]⟩)]⟩ .no) .no)) .no)))]) ⟨⟨Tryz.func93,fun _ _=>by kernel_rfl⟩,⟨Tryz.func94,fun _ _=>by kernel_rfl⟩,⟨Tryz.func137,fun _ _=>by kernel_rfl⟩,trivial⟩ (ann:=(.two .no (.two .no (.two (.cut ⟨⟨[],[],[]⟩,[(.norm,⟨[],[],[.s 2 (.dat .bool)]⟩)]⟩ .no) .no)))) Tryz.func43 (fun _ _=>by kernel_rfl) rfl (fun v vals x z ha hz=>(Z6y x).trans hz)
end Go.Eng
set_option maxRecDepth 100000
set_option maxHeartbeats 4000000
namespace Go.Eng
open Go.Proofs Go.RowKit
noncomputable def ZOd:FuncId×Con:=(22,⟨[.leaf 3],[.bool],fun p=>ZUc p⟩)
theorem qzero_i (x:Rat):Zk ⟨Tryz.prog,[(39,0),(41,2),(43,3)],[],[],[],[],[],[]⟩ [] Tryz.f22 .no [.leaf 3] [.bool] (x)=Zep x:=by kernel_rfl
theorem Zfl:Zj Tryz.prog ZOd.1 ZOd.2:=Zn (C:=⟨Tryz.prog,[(39,0),(41,2),(43,3)],[],[],[],[],[],[]⟩) trivial trivial trivial trivial (inl:=[]) trivial (ann:=.no) Tryz.func22 (fun _ _=>by kernel_rfl) rfl fun v vals x z ha hz=>(qzero_i x).trans (ZCt hz)
end Go.Eng
set_option maxRecDepth 100000
set_option maxHeartbeats 4000000
namespace Go.Eng
open Go.Proofs Go.RowKit
noncomputable def ZNf:FuncId×Con:=(55,⟨[.leaf 0],[.leaf 0],fun p=>ZMc p⟩)
theorem under_i (d:Nat):Zk ⟨Tryz.prog,[(39,0),(41,2),(43,3)],[Z3e],[],[],[],[],[]⟩ [] Tryz.f55 .no [.leaf 0] [.leaf 0] (d)=ZBn d:=by kernel_rfl
theorem Zpo:Zj Tryz.prog ZNf.1 ZNf.2:=Zn (C:=⟨Tryz.prog,[(39,0),(41,2),(43,3)],[Z3e],[],[],[],[],[]⟩) ⟨Zvp,trivial⟩ trivial trivial trivial (inl:=[]) trivial (ann:=.no) Tryz.func55 (fun _ _=>by kernel_rfl) rfl fun v vals x z ha hz=>(under_i x).trans (Zlw hz)
end Go.Eng
set_option maxRecDepth 100000
set_option maxHeartbeats 4000000
namespace Go.Eng
open Go.Proofs Go.RowKit
noncomputable def Zuk:FuncId×Con:=(106,⟨[.int .u64,.int .u64],[.int .u64,.int .u64],fun p=>ZEc p.1 p.2⟩)
theorem mul64_i (x:Int) (y:Int):Zk ⟨Tryz.prog,[],[],[],[],[],[],[]⟩ [] Tryz.f106 .no [.int .u64,.int .u64] [.int .u64,.int .u64] (x,y)=ZOh x y:=by kernel_rfl
theorem mul64_k:Zj Tryz.prog Zuk.1 Zuk.2:=Zn (C:=⟨Tryz.prog,[],[],[],[],[],[],[]⟩) trivial trivial trivial trivial (inl:=[]) trivial (ann:=.no) Tryz.func106 (fun _ _=>by kernel_rfl) rfl fun v vals x z ha hz=>(mul64_i x.1 x.2).trans (ZBr hz)
end Go.Eng
set_option maxRecDepth 100000
set_option maxHeartbeats 4000000
namespace Go.Eng
open Go.Proofs Go.RowKit
noncomputable def ZJh:FuncId×Con:=(107,⟨[.int .u64,.int .u64,.int .u64],[.int .u64,.int .u64],fun p=>ZHb p.1 p.2.1 p.2.2⟩)
theorem ZFp:Zj Tryz.prog ZJh.1 ZJh.2:=fun w v vals x z _ ha hz=>by
 obtain ⟨c0,w0,e0,p0,c1,w1,e1,p1,c2,e2,p2⟩:=ha
 subst e0 e1 e2
 obtain ⟨rfl,h0⟩:=p0
 obtain ⟨rfl,h1⟩:=p1
 obtain ⟨rfl,h2⟩:=p2
 have p0:(Zd .u64).rel v [.int .u64 x.1] x.1:=⟨rfl,h0⟩
 have p1:(Zd .u64).rel v [.int .u64 x.2.1] x.2.1:=⟨rfl,h1⟩
 exact .inr ⟨.tuple #[.int .u64 z.1,.int .u64 z.2],fun w=>Zhn (show Z4e Tryz.prog 107 add64Entry from ⟨_,Tryz.func107,by kernel_rfl,by kernel_rfl,by kernel_rfl,by kernel_rfl⟩) hz w,_,rfl,_,_,rfl,⟨rfl,Zeo hz⟩,_,rfl,⟨rfl,addW_hi p0.2 p1.2 hz⟩⟩
end Go.Eng
set_option maxRecDepth 100000
set_option maxHeartbeats 4000000
namespace Go.Eng
open Go.Proofs Go.RowKit
noncomputable def ZKc:FuncId×Con:=(59,⟨[.leaf 0,.leaf 0],[.leaf 0],fun p=>ZGc p.1 p.2⟩)
theorem times_i (a:Nat) (b:Nat):Zk ⟨Tryz.prog,[(39,0)],[Zch,Zuk,ZJh,Zkf],[],[],[],[],[]⟩ [] Tryz.f59 (.two .no (.two .no (.two .no (.two .no (.two (.two .no (.cut ⟨⟨[],[],[]⟩,[(.norm,⟨[],[],[.s 5 (.own 148 (.int .u64))]⟩)]⟩ (.two (.cut ⟨⟨[1,26,27],[],[.s 5 (.own 148 (.int .u64)),.s 28 (.dat (.int .i64))]⟩,[(.exit 0,⟨[],[],[.s 5 (.own 148 (.int .u64))]⟩)]⟩ (.two (.two .no (.two .no (.two (.two (.two .no (.two .no (.two (.two .no (.cut ⟨⟨[],[],[]⟩,[(.norm,⟨[1,6,26,27,28],[],[.s 5 (.own 148 (.int .u64)),.s 8 (.dat (.int .u64))]⟩)]⟩ (.two (.cut ⟨⟨[1,6,7,26,27,28,33,34],[],[.s 5 (.own 148 (.int .u64)),.s 8 (.dat (.int .u64)),.s 35 (.dat (.int .i64))]⟩,[(.exit 2,⟨[1,6,26,27,28],[],[.s 5 (.own 148 (.int .u64)),.s 8 (.dat (.int .u64))]⟩)]⟩ .no) .no))) .no))) .no) .no))) .no)) .no))) .no))))) [.leaf 0,.leaf 0] [.leaf 0] (a,b)=ZJk a b:=by kernel_rfl
theorem ZTi:Zj Tryz.prog ZKc.1 ZKc.2:=Zn (C:=⟨Tryz.prog,[(39,0)],[Zch,Zuk,ZJh,Zkf],[],[],[],[],[]⟩) ⟨Zor,mul64_k,ZFp,cut_k,trivial⟩ trivial trivial trivial (inl:=[]) trivial (ann:=.two .no (.two .no (.two .no (.two .no (.two (.two .no (.cut ⟨⟨[],[],[]⟩,[(.norm,⟨[],[],[.s 5 (.own 148 (.int .u64))]⟩)]⟩ (.two (.cut ⟨⟨[1,26,27],[],[.s 5 (.own 148 (.int .u64)),.s 28 (.dat (.int .i64))]⟩,[(.exit 0,⟨[],[],[.s 5 (.own 148 (.int .u64))]⟩)]⟩ (.two (.two .no (.two .no (.two (.two (.two .no (.two .no (.two (.two .no (.cut ⟨⟨[],[],[]⟩,[(.norm,⟨[1,6,26,27,28],[],[.s 5 (.own 148 (.int .u64)),.s 8 (.dat (.int .u64))]⟩)]⟩ (.two (.cut ⟨⟨[1,6,7,26,27,28,33,34],[],[.s 5 (.own 148 (.int .u64)),.s 8 (.dat (.int .u64)),.s 35 (.dat (.int .i64))]⟩,[(.exit 2,⟨[1,6,26,27,28],[],[.s 5 (.own 148 (.int .u64)),.s 8 (.dat (.int .u64))]⟩)]⟩ .no) .no))) .no))) .no) .no))) .no)) .no))) .no))))) Tryz.func59 (fun _ _=>by kernel_rfl) rfl fun v vals x z ha hz=>(times_i x.1 x.2).trans (Z4y hz)
end Go.Eng
set_option maxRecDepth 100000
set_option maxHeartbeats 4000000
namespace Go.Eng
open Go.Proofs Go.RowKit
noncomputable def ZUj:FuncId×Con:=(70,⟨[.leaf 2,.leaf 2],[.leaf 2],fun p=>ZKi p.1 p.2⟩)
theorem ZCu (x:Int) (y:Int):Zk ⟨Tryz.prog,[(39,0),(41,2),(43,3)],[ZKc,Zcc],[],[],[],[],[]⟩ [] Tryz.f70 .no [.leaf 2,.leaf 2] [.leaf 2] (x,y)=Z9n x y:=by kernel_rfl
theorem Z8t:Zj Tryz.prog ZUj.1 ZUj.2:=Zn (C:=⟨Tryz.prog,[(39,0),(41,2),(43,3)],[ZKc,Zcc],[],[],[],[],[]⟩) ⟨ZTi,Zzh,trivial⟩ trivial trivial trivial (inl:=[]) trivial (ann:=.no) Tryz.func70 (fun _ _=>by kernel_rfl) rfl fun v vals x z ha hz=>(ZCu x.1 x.2).trans (Zvy hz)
end Go.Eng
set_option maxRecDepth 100000
set_option maxHeartbeats 4000000
namespace Go.Eng
open Go.Proofs Go.RowKit
noncomputable def Zbe:FuncId×Con:=(30,⟨[.leaf 3,.leaf 3],[.leaf 3],fun p=>ZIb p.1 p.2⟩)
theorem qmul_i (x:Rat) (y:Rat):Zk ⟨Tryz.prog,[(39,0),(41,2),(43,3)],[ZNf,ZRd,ZKc,ZUj],[],[],[],[],[]⟩ [] Tryz.f30 .no [.leaf 3,.leaf 3] [.leaf 3] (x,y)=Zmn x y:=by kernel_rfl
theorem Z9k:Zj Tryz.prog Zbe.1 Zbe.2:=Zn (C:=⟨Tryz.prog,[(39,0),(41,2),(43,3)],[ZNf,ZRd,ZKc,ZUj],[],[],[],[],[]⟩) ⟨Zpo,ZNj,ZTi,Z8t,trivial⟩ trivial trivial trivial (inl:=[]) trivial (ann:=.no) Tryz.func30 (fun _ _=>by kernel_rfl) rfl fun v vals x z ha hz=>(qmul_i x.1 x.2).trans (ZTw hz)
end Go.Eng
set_option maxRecDepth 100000
set_option maxHeartbeats 4000000
namespace Go.Eng
open Go.Proofs Go.RowKit
noncomputable def Znl:FuncId×Con:=(215,⟨[.leaf 3,.leaf 3],[.leaf 3],fun p=>Zxk p.1 p.2⟩)
theorem qOf_i (x:Rat) (y:Rat):Zk ⟨Tryz.prog,[(39,0),(41,2),(43,3),(91,1),(93,4)],[],[],[],[],[],[]⟩ [] Tryz.f215 .no [.leaf 3,.leaf 3] [.leaf 3] (x,y)=Zxk x y:=by kernel_rfl
theorem qOf_k:Zj Tryz.prog Znl.1 Znl.2:=Zn (C:=⟨Tryz.prog,[(39,0),(41,2),(43,3),(91,1),(93,4)],[],[],[],[],[],[]⟩) trivial trivial trivial trivial (inl:=[]) trivial (ann:=.no) Tryz.func215 (fun _ _=>by kernel_rfl) rfl (fun v vals x z ha hz=>(qOf_i x.1 x.2).trans hz)
end Go.Eng
set_option maxRecDepth 100000
namespace Go.Eng
open Go.Proofs Go.RowKit
theorem Z2n : ∀ y w, (method (Tryz.prog.types.size + Made.depth) 43 y "Add").run Tryz.prog w = .ok (23, y) w := fun _ _ => by kernel_rfl
theorem Zjt : ∀ y w, (method (Tryz.prog.types.size + Made.depth) 43 y "Cmp").run Tryz.prog w = .ok (31, y) w := fun _ _ => by kernel_rfl
theorem ZYp : ∀ y w, (method (Tryz.prog.types.size + Made.depth) 43 y "Div").run Tryz.prog w = .ok (213, y) w := fun _ _ => by kernel_rfl
theorem ZGk : ∀ y w, (method (Tryz.prog.types.size + Made.depth) 43 y "Mul").run Tryz.prog w = .ok (30, y) w := fun _ _ => by kernel_rfl
theorem Zqk : ∀ y w, (method (Tryz.prog.types.size + Made.depth) 43 y "Neg").run Tryz.prog w = .ok (117, y) w := fun _ _ => by kernel_rfl
theorem Zsw : ∀ y w, (method (Tryz.prog.types.size + Made.depth) 43 y "Of").run Tryz.prog w = .ok (215, y) w := fun _ _ => by kernel_rfl
theorem ZBy : ∀ y w, (method (Tryz.prog.types.size + Made.depth) 43 y "Same").run Tryz.prog w = .ok (24, y) w := fun _ _ => by kernel_rfl
theorem Zxp : ∀ y w, (method (Tryz.prog.types.size + Made.depth) 43 y "Sign").run Tryz.prog w = .ok (72, y) w := fun _ _ => by kernel_rfl
theorem ZVs : ∀ y w, (method (Tryz.prog.types.size + Made.depth) 43 y "Sub").run Tryz.prog w = .ok (71, y) w := fun _ _ => by kernel_rfl
theorem ZSo : ∀ y w, (method (Tryz.prog.types.size + Made.depth) 43 y "Zero").run Tryz.prog w = .ok (22, y) w := fun _ _ => by kernel_rfl
end Go.Eng
set_option maxRecDepth 100000
set_option maxHeartbeats 4000000
namespace Go.Eng
open Go.Proofs Go.RowKit
noncomputable def Z9b:FuncId×Con:=(50,⟨[.int .i64],[.leaf 3],fun p=>Z6b p⟩)
theorem Z5t (n : Int) : Zk ⟨Tryz.prog, [(39, 0), (41, 2), (43, 3), (91, 1), (93, 4)], [ZCh, Znl], [], [], [], [((43, "Of"), 215)], []⟩ [] Tryz.f50 .no [.int .i64] [.leaf 3] (n) = Z6b n := by kernel_rfl
theorem Zjh : Zj Tryz.prog Z9b.1 Z9b.2 := Zn (C := ⟨Tryz.prog, [(39, 0), (41, 2), (43, 3), (91, 1), (93, 4)], [ZCh, Znl], [], [], [], [((43, "Of"), 215)], []⟩) ⟨Zsq, qOf_k, trivial⟩ trivial trivial ⟨Zsw, trivial⟩ (inl := []) trivial (ann := .no) Tryz.func50 (fun _ _ => by kernel_rfl) rfl (fun v vals x z ha hz => (Z5t x).trans hz)
end Go.Eng
set_option maxRecDepth 100000
set_option maxHeartbeats 4000000
namespace Go.Eng
open Go.Proofs Go.RowKit
noncomputable def Z2h:FuncId×Con:=(57,⟨[.leaf 2,.leaf 0],[.leaf 2],fun p=>ZDf p.1 p.2⟩)
theorem ZPw (x:Int) (n:Nat):Zk ⟨Tryz.prog,[(39,0),(41,2),(43,3)],[ZKc,Zcc],[],[],[],[],[]⟩ [] Tryz.f57 .no [.leaf 2,.leaf 0] [.leaf 2] (x,n)=ZPo x n:=by kernel_rfl
theorem ZIr:Zj Tryz.prog Z2h.1 Z2h.2:=Zn (C:=⟨Tryz.prog,[(39,0),(41,2),(43,3)],[ZKc,Zcc],[],[],[],[],[]⟩) ⟨ZTi,Zzh,trivial⟩ trivial trivial trivial (inl:=[]) trivial (ann:=.no) Tryz.func57 (fun _ _=>by kernel_rfl) rfl fun v vals x z ha hz=>(ZPw x.1 x.2).trans (Zjv hz)
end Go.Eng
set_option maxRecDepth 100000
set_option maxHeartbeats 4000000
namespace Go.Eng
open Go.Proofs Go.RowKit
noncomputable def Zmh:FuncId×Con:=(60,⟨[.leaf 0,.leaf 0],[.int .i64],fun p=>Zid p.1 p.2⟩)
theorem cmp_i (a:(List Int)) (b:(List Int)):Zk ⟨Tryz.prog,[],[],[],[],[],[],[]⟩ [] Tryz.f60 (.two .no (.two .no (.two (.two .no (.cut ⟨⟨[],[],[]⟩,[(.norm,⟨[],[],[]⟩),(.ret,⟨[],[],[.s 1000 (.dat (.int .i64))]⟩)]⟩ (.two (.cut ⟨⟨[0,1],[],[.s 5 (.dat (.int .i64))]⟩,[(.ret,⟨[],[],[.s 1000 (.dat (.int .i64))]⟩),(.exit 0,⟨[],[],[]⟩)]⟩ .no) .no))) .no))) [.slice (.int .u64),.slice (.int .u64)] [.int .i64] (a,b)=Zgj a b:=by kernel_rfl
theorem cmp_k:Zj Tryz.prog Zmh.1 Zmh.2:=Zil (C:=⟨Tryz.prog,[],[],[],[],[],[],[]⟩) trivial trivial trivial trivial (inl:=[]) trivial (ann:=.two .no (.two .no (.two (.two .no (.cut ⟨⟨[],[],[]⟩,[(.norm,⟨[],[],[]⟩),(.ret,⟨[],[],[.s 1000 (.dat (.int .i64))]⟩)]⟩ (.two (.cut ⟨⟨[0,1],[],[.s 5 (.dat (.int .i64))]⟩,[(.ret,⟨[],[],[.s 1000 (.dat (.int .i64))]⟩),(.exit 0,⟨[],[],[]⟩)]⟩ .no) .no))) .no))) (ats:=[.slice (.int .u64),.slice (.int .u64)]) (rts:=[.int .i64]) (fun x=>((Zc 18446744073709551616 x.1),(Zc 18446744073709551616 x.2))) (fun z=>z) (fun _ _ _ h=>h) (fun _ _ _ h=>h) Tryz.func60 (fun _ _=>by kernel_rfl) rfl fun v vals x z ha hz=>by obtain ⟨c0,w0,e0,p0,c1,e1,p1⟩:=ha;exact (cmp_i (Zc 18446744073709551616 x.1) (Zc 18446744073709551616 x.2)).trans ((ZSr (ZUk p0) (ZUk p1)).trans hz)
end Go.Eng
set_option maxRecDepth 100000
set_option maxHeartbeats 4000000
namespace Go.Eng
open Go.Proofs Go.RowKit
noncomputable def Zgm:FuncId×Con:=(104,⟨[.leaf 0,.leaf 0],[.leaf 0],fun p=>ZZi p.1 p.2⟩)
theorem plus_i (a:Nat) (b:Nat):Zk ⟨Tryz.prog,[(39,0)],[ZJh],[],[],[],[],[]⟩ [] Tryz.f104 (.two .no (.two (.two .no (.cut ⟨⟨[],[],[]⟩,[(.norm,⟨[],[],[.s 0 (.dat (.leaf 0)),.s 1 (.dat (.leaf 0))]⟩)]⟩ .no)) (.two .no (.two .no (.two (.two .no (.cut ⟨⟨[],[],[]⟩,[(.norm,⟨[],[],[.s 5 (.own 148 (.int .u64)),.s 6 (.dat (.int .u64))]⟩)]⟩ (.two (.cut ⟨⟨[1,23,24],[],[.s 5 (.own 148 (.int .u64)),.s 6 (.dat (.int .u64)),.s 25 (.dat (.int .i64))]⟩,[(.exit 0,⟨[],[],[.s 5 (.own 148 (.int .u64)),.s 6 (.dat (.int .u64))]⟩)]⟩ (.two (.two .no (.two .no (.two (.two (.two .no (.two .no (.two (.two .no (.cut ⟨⟨[],[],[]⟩,[(.norm,⟨[1,5,6,7,8,23,24,25],[],[.s 9 (.dat (.int .u64))]⟩)]⟩ .no)) .no))) .no) .no))) .no)) .no))) (.two (.two .no (.cut ⟨⟨[],[],[]⟩,[(.norm,⟨[],[],[.s 5 (.own 148 (.int .u64))]⟩)]⟩ .no)) .no)))))) [.leaf 0,.leaf 0] [.leaf 0] (a,b)=Ztk a b:=by kernel_rfl
theorem plus_k:Zj Tryz.prog Zgm.1 Zgm.2:=Zn (C:=⟨Tryz.prog,[(39,0)],[ZJh],[],[],[],[],[]⟩) ⟨ZFp,trivial⟩ trivial trivial trivial (inl:=[]) trivial (ann:=.two .no (.two (.two .no (.cut ⟨⟨[],[],[]⟩,[(.norm,⟨[],[],[.s 0 (.dat (.leaf 0)),.s 1 (.dat (.leaf 0))]⟩)]⟩ .no)) (.two .no (.two .no (.two (.two .no (.cut ⟨⟨[],[],[]⟩,[(.norm,⟨[],[],[.s 5 (.own 148 (.int .u64)),.s 6 (.dat (.int .u64))]⟩)]⟩ (.two (.cut ⟨⟨[1,23,24],[],[.s 5 (.own 148 (.int .u64)),.s 6 (.dat (.int .u64)),.s 25 (.dat (.int .i64))]⟩,[(.exit 0,⟨[],[],[.s 5 (.own 148 (.int .u64)),.s 6 (.dat (.int .u64))]⟩)]⟩ (.two (.two .no (.two .no (.two (.two (.two .no (.two .no (.two (.two .no (.cut ⟨⟨[],[],[]⟩,[(.norm,⟨[1,5,6,7,8,23,24,25],[],[.s 9 (.dat (.int .u64))]⟩)]⟩ .no)) .no))) .no) .no))) .no)) .no))) (.two (.two .no (.cut ⟨⟨[],[],[]⟩,[(.norm,⟨[],[],[.s 5 (.own 148 (.int .u64))]⟩)]⟩ .no)) .no)))))) Tryz.func104 (fun _ _=>by kernel_rfl) rfl fun v vals x z ha hz=>(plus_i x.1 x.2).trans (ZMy hz)
end Go.Eng
set_option maxRecDepth 100000
set_option maxHeartbeats 4000000
namespace Go.Eng
open Go.Proofs Go.RowKit
noncomputable def Zzm:FuncId×Con:=(146,⟨[.int .u64,.int .u64,.int .u64],[.int .u64,.int .u64],fun p=>Zkd p.1 p.2.1 p.2.2⟩)
theorem sub64_k:Zj Tryz.prog Zzm.1 Zzm.2:=fun w v vals x z _ ha hz=>by
 obtain ⟨c0,w0,e0,p0,c1,w1,e1,p1,c2,e2,p2⟩:=ha
 subst e0 e1 e2
 obtain ⟨rfl,h0⟩:=p0
 obtain ⟨rfl,h1⟩:=p1
 obtain ⟨rfl,h2⟩:=p2
 have p0:(Zd .u64).rel v [.int .u64 x.1] x.1:=⟨rfl,h0⟩
 have p1:(Zd .u64).rel v [.int .u64 x.2.1] x.2.1:=⟨rfl,h1⟩
 exact .inr ⟨.tuple #[.int .u64 z.1,.int .u64 z.2],fun w=>Zdr (show Z4e Tryz.prog 146 Zjl from ⟨_,Tryz.func146,by kernel_rfl,by kernel_rfl,by kernel_rfl,by kernel_rfl⟩) p0.2 p1.2 hz w,_,rfl,_,_,rfl,⟨rfl,ZXr hz⟩,_,rfl,⟨rfl,ZEr hz⟩⟩
end Go.Eng
set_option maxRecDepth 100000
set_option maxHeartbeats 4000000
namespace Go.Eng
open Go.Proofs Go.RowKit
noncomputable def Zzk:FuncId×Con:=(105,⟨[.leaf 0,.leaf 0],[.leaf 0],fun p=>Z3g p.1 p.2⟩)
theorem minus_i (a:Nat) (b:Nat):Zk ⟨Tryz.prog,[(39,0)],[Zkf,Zzm],[],[],[],[],[]⟩ [] Tryz.f105 (.two .no (.two .no (.two .no (.two (.two .no (.cut ⟨⟨[],[],[]⟩,[(.norm,⟨[],[],[.s 5 (.own 148 (.int .u64))]⟩)]⟩ (.two (.cut ⟨⟨[1,13,14],[],[.s 5 (.own 148 (.int .u64)),.s 6 (.dat (.int .u64)),.s 15 (.dat (.int .i64))]⟩,[(.exit 0,⟨[],[],[.s 5 (.own 148 (.int .u64))]⟩)]⟩ (.two (.two .no (.two .no (.two (.two (.two .no (.two .no (.two (.two .no (.cut ⟨⟨[],[],[]⟩,[(.norm,⟨[1,5,6,7,8,13,14,15],[],[.s 9 (.dat (.int .u64))]⟩)]⟩ .no)) .no))) .no) .no))) .no)) .no))) .no)))) [.leaf 0,.leaf 0] [.leaf 0] (a,b)=ZWj a b:=by kernel_rfl
theorem minus_k:Zj Tryz.prog Zzk.1 Zzk.2:=Zn (C:=⟨Tryz.prog,[(39,0)],[Zkf,Zzm],[],[],[],[],[]⟩) ⟨cut_k,sub64_k,trivial⟩ trivial trivial trivial (inl:=[]) trivial (ann:=.two .no (.two .no (.two .no (.two (.two .no (.cut ⟨⟨[],[],[]⟩,[(.norm,⟨[],[],[.s 5 (.own 148 (.int .u64))]⟩)]⟩ (.two (.cut ⟨⟨[1,13,14],[],[.s 5 (.own 148 (.int .u64)),.s 6 (.dat (.int .u64)),.s 15 (.dat (.int .i64))]⟩,[(.exit 0,⟨[],[],[.s 5 (.own 148 (.int .u64))]⟩)]⟩ (.two (.two .no (.two .no (.two (.two (.two .no (.two .no (.two (.two .no (.cut ⟨⟨[],[],[]⟩,[(.norm,⟨[1,5,6,7,8,13,14,15],[],[.s 9 (.dat (.int .u64))]⟩)]⟩ .no)) .no))) .no) .no))) .no)) .no))) .no)))) Tryz.func105 (fun _ _=>by kernel_rfl) rfl fun v vals x z ha hz=>(minus_i x.1 x.2).trans (Zbw hz)
end Go.Eng
set_option maxRecDepth 100000
set_option maxHeartbeats 4000000
namespace Go.Eng
open Go.Proofs Go.RowKit
noncomputable def Z4l:FuncId×Con:=(58,⟨[.leaf 2,.leaf 2],[.leaf 2],fun p=>Zvj p.1 p.2⟩)
theorem iplus_i (x:Int) (y:Int):Zk ⟨Tryz.prog,[(39,0),(41,2),(43,3)],[Zmh,Zcc,Zgm,Zzk],[],[],[],[],[]⟩ [] Tryz.f58 .no [.leaf 2,.leaf 2] [.leaf 2] (x,y)=Zwp x y:=by kernel_rfl
theorem iplus_k:Zj Tryz.prog Z4l.1 Z4l.2:=Zn (C:=⟨Tryz.prog,[(39,0),(41,2),(43,3)],[Zmh,Zcc,Zgm,Zzk],[],[],[],[],[]⟩) ⟨cmp_k,Zzh,plus_k,minus_k,trivial⟩ trivial trivial trivial (inl:=[]) trivial (ann:=.no) Tryz.func58 (fun _ _=>by kernel_rfl) rfl fun v vals x z ha hz=>(iplus_i x.1 x.2).trans (Zyv hz)
end Go.Eng
set_option maxRecDepth 100000
set_option maxHeartbeats 4000000
namespace Go.Eng
open Go.Proofs Go.RowKit
noncomputable def ZZd:FuncId×Con:=(23,⟨[.leaf 3,.leaf 3],[.leaf 3],fun p=>Zwf p.1 p.2⟩)
theorem qadd_i (x:Rat) (y:Rat):Zk ⟨Tryz.prog,[(39,0),(41,2),(43,3)],[ZNf,ZRd,Z2h,Z4l,ZKc],[],[],[],[],[]⟩ [] Tryz.f23 .no [.leaf 3,.leaf 3] [.leaf 3] (x,y)=Zwn x y:=by kernel_rfl
theorem ZLj:Zj Tryz.prog ZZd.1 ZZd.2:=Zn (C:=⟨Tryz.prog,[(39,0),(41,2),(43,3)],[ZNf,ZRd,Z2h,Z4l,ZKc],[],[],[],[],[]⟩) ⟨Zpo,ZNj,ZIr,iplus_k,ZTi,trivial⟩ trivial trivial trivial (inl:=[]) trivial (ann:=.no) Tryz.func23 (fun _ _=>by kernel_rfl) rfl fun v vals x z ha hz=>(qadd_i x.1 x.2).trans (Zgw hz)
end Go.Eng
set_option maxRecDepth 100000
set_option maxHeartbeats 4000000
namespace Go.Eng
open Go.Proofs Go.RowKit
noncomputable def Zak:FuncId×Con:=(157,⟨[.leaf 2],[.leaf 2],fun p=>Zjj p⟩)
theorem Ztv (x:Int):Zk ⟨Tryz.prog,[(39,0),(41,2),(43,3)],[Zcc],[],[],[],[],[]⟩ [] Tryz.f157 .no [.leaf 2] [.leaf 2] (x)=Zxo x:=by kernel_rfl
theorem ZYt:Zj Tryz.prog Zak.1 Zak.2:=Zn (C:=⟨Tryz.prog,[(39,0),(41,2),(43,3)],[Zcc],[],[],[],[],[]⟩) ⟨Zzh,trivial⟩ trivial trivial trivial (inl:=[]) trivial (ann:=.no) Tryz.func157 (fun _ _=>by kernel_rfl) rfl fun v vals x z ha hz=>(Ztv x).trans (Zgx hz)
end Go.Eng
set_option maxRecDepth 100000
set_option maxHeartbeats 4000000
namespace Go.Eng
open Go.Proofs Go.RowKit
noncomputable def ZPc:FuncId×Con:=(117,⟨[.leaf 3],[.leaf 3],fun p=>Zwc p⟩)
theorem qneg_i (x:Rat):Zk ⟨Tryz.prog,[(39,0),(41,2),(43,3)],[Zak],[],[],[],[],[]⟩ [] Tryz.f117 .no [.leaf 3] [.leaf 3] (x)=ZXn x:=by kernel_rfl
theorem Zxj:Zj Tryz.prog ZPc.1 ZPc.2:=Zn (C:=⟨Tryz.prog,[(39,0),(41,2),(43,3)],[Zak],[],[],[],[],[]⟩) ⟨ZYt,trivial⟩ trivial trivial trivial (inl:=[]) trivial (ann:=.no) Tryz.func117 (fun _ _=>by kernel_rfl) rfl fun v vals x z ha hz=>(qneg_i x).trans (Z2v hz)
end Go.Eng
set_option maxRecDepth 100000
set_option maxHeartbeats 4000000
namespace Go.Eng
open Go.Proofs Go.RowKit
noncomputable def Zff:FuncId×Con:=(71,⟨[.leaf 3,.leaf 3],[.leaf 3],fun p=>Zwd p.1 p.2⟩)
theorem qsub_i (x:Rat) (y:Rat):Zk ⟨Tryz.prog,[(39,0),(41,2),(43,3)],[ZZd,ZPc],[],[],[],[],[]⟩ [] Tryz.f71 .no [.leaf 3,.leaf 3] [.leaf 3] (x,y)=Zho x y:=by kernel_rfl
theorem ZIo:Zj Tryz.prog Zff.1 Zff.2:=Zn (C:=⟨Tryz.prog,[(39,0),(41,2),(43,3)],[ZZd,ZPc],[],[],[],[],[]⟩) ⟨ZLj,Zxj,trivial⟩ trivial trivial trivial (inl:=[]) trivial (ann:=.no) Tryz.func71 (fun _ _=>by kernel_rfl) rfl fun v vals x z ha hz=>(qsub_i x.1 x.2).trans (Zey hz)
end Go.Eng
namespace Go.Eng
open Go.Proofs Go.RowKit
set_option maxRecDepth 100000
theorem ZOr:Elem Tryz.prog 30 43 (Zxb).n 56 (Value.agg #[Value.bool false,Value.slice none 0 0,Value.slice none 0 0]):=⟨Tryz.underlying30,by kernel_rfl,rfl,by decide⟩
noncomputable def ZId:FuncId×ConO:=(138,⟨[.slice (.leaf 3)],43,.leaf 3,fun p=>Z9c 56 p⟩)
theorem Zpk:ZFg Tryz.prog ZId.1 ZId.2:=fun w v vals x z hv ha hz=>by
 obtain ⟨cs,rfl,p0⟩:=ha
 have hz:Z9c 56 (show List Rat from x)=some z:=hz
 obtain ⟨hb,rfl⟩:=ZJx hz
 obtain ⟨q,n,c,rfl⟩:=Z2f (show (Zw Zxb).rel v cs z from p0)
 refine ⟨fun _ _=>by kernel_rfl,?_⟩
 have hn:n=(show List Rat from z).length:=by obtain ⟨_,_,e,_⟩:=p0;cases e;rfl
 refine ZRk (K:=8) (args:=[.slice q n c]) hv Tryz.func138 rfl rfl zl fun fa hS=>?_
 refine sr ?_
 refine mw hS rfl fun fa hS=>?_
 refine oe ?_
 refine wp_seq_k fun N1 hN1=>?_
 refine sr ?_
 refine mv hS rfl fun fa hS=>?_
 refine ov hS rfl (ZQx hS Tryz.underlying30 rfl rfl) fun fa hS=>?_
 refine oe ?_
 cases q with
 | none =>
  refine ZX hS rfl rfl ?_
  have hx:(show List Rat from z)=[]:=by
   obtain ⟨q',c',e,_,_,h3⟩:=p0
   cases e
   rcases h3 with h3 | ⟨_,_,_,_,_,h4,_⟩
   ·exact h3
   ·cases h4
  have hx0:n=0:=by rw [hn,hx];rfl
  refine sr ?_;refine mw hS rfl fun fa hS=>?_;refine oe ?_;refine wp_ret ?_;refine Z9a ?_;have hS2:=hS.nilLoc 43 (Zxb).n;have:=ZVn (P:=Tryz.prog) (A:=Zxb) hS2 (i:=0) (ob:=none) (n:=0) (cap:=0) (cs:=[]) rfl (ZVa (fn:=Tryz.f138) (r:=.tmp 2) rfl (ZW (t:=2) (y:=.slice (mkA none) 0 0) hS2 rfl)) (l:=([]:List Rat)) Z7c rfl;rw [hx];exact this
 | some ad =>
  refine ZR hS rfl rfl ?_;refine wp_skip ?_;refine Zh (hN1 _ _ ?_);refine sr ?_;obtain ⟨b,wo,hrun,hS⟩:=Z5y ZOr hS;refine ZSb wn rfl zl hrun hS fun fa hS=>?_;refine mv hS rfl fun fa hS=>?_;obtain ⟨b',cap',cs2,wo,hr,hS',hrel⟩:=Zig (ty:=30) (A:=Zxb) ZOr hS (i:=0) rfl (Rep.mono (Zw Zxb) hS.vst.le p0) (n':=n) (by omega) (by rw [hn];exact hb) (by decide);refine ZSb wn rfl zl (Zte hS rfl rfl hr) hS' fun fa hS=>?_;refine mw hS rfl fun fa hS=>?_;refine oe ?_;refine wp_ret ?_;exact ZVn hS (i:=0) rfl (ZVa rfl (ZW hS rfl)) hrel hn
end Go.Eng
set_option maxRecDepth 100000
set_option maxHeartbeats 4000000
namespace Go.Eng
open Go.Proofs Go.RowKit
noncomputable def ZNg:FuncId×Con:=(213,⟨[.leaf 3,.leaf 3],[.leaf 3,.int .i64],fun p=>ZHf p.1 p.2⟩)
theorem qdiv_i (x:Rat) (y:Rat):Zk ⟨Tryz.prog,[(39,0),(41,2),(43,3)],[ZOd,ZNf,ZRd,Z2h,ZKc,Zcc],[],[],[],[],[]⟩ [] Tryz.f213 (.two .no (.two .no (.two (.cut ⟨⟨[],[],[]⟩,[(.norm,⟨[2,3,4],[],[.s 6 (.box 41 (.dat (.leaf 2)))]⟩)]⟩ .no) .no))) [.leaf 3,.leaf 3] [.leaf 3,.int .i64] (x,y)=ZKn x y:=by kernel_rfl
theorem ZHs:Zj Tryz.prog ZNg.1 ZNg.2:=Zn (C:=⟨Tryz.prog,[(39,0),(41,2),(43,3)],[ZOd,ZNf,ZRd,Z2h,ZKc,Zcc],[],[],[],[],[]⟩) ⟨Zfl,Zpo,ZNj,ZIr,ZTi,Zzh,trivial⟩ trivial trivial trivial (inl:=[]) trivial (ann:=.two .no (.two .no (.two (.cut ⟨⟨[],[],[]⟩,[(.norm,⟨[2,3,4],[],[.s 6 (.box 41 (.dat (.leaf 2)))]⟩)]⟩ .no) .no))) Tryz.func213 (fun _ _=>by kernel_rfl) rfl fun v vals x z ha hz=>(qdiv_i x.1 x.2).trans (Z0w hz)
end Go.Eng
set_option maxRecDepth 100000
set_option maxHeartbeats 4000000
namespace Go.Eng
open Go.Proofs Go.RowKit
noncomputable def Zof:FuncId×Con:=(44,⟨[.slice (.slice (.leaf 3))],[.slice (.slice (.leaf 3)),.slice (.int .i64),.leaf 3],fun p=>ZIf p⟩)
theorem ZRu (m : List (List Rat)) : Zk ⟨Tryz.prog, [(39, 0), (41, 2), (43, 3), (91, 1), (93, 4)], [ZOd, Zbe, Z9b, Zff, ZPc, ZNg], [8], [ZId], [], [((43, "Div"), 213), ((43, "Mul"), 30), ((43, "Neg"), 117), ((43, "Sub"), 71), ((43, "Zero"), 22)], []⟩ [(47, Tryz.f47, .cut ⟨⟨[], [], []⟩, [(.ret, ⟨[], [], [.s 1000 (.dat (.int .i64))]⟩)]⟩ .no), (95, Tryz.f95, .two .no (.two .no (.two (.two .no (.two (.cut ⟨⟨[3, 9, 10], [], [.s 11 (.dat (.int .i64)), .l (.sl 3) (.mat 30 43 (.leaf 3))]⟩, [(.exit 0, ⟨[3], [], [.l (.sl 3) (.mat 30 43 (.leaf 3))]⟩)]⟩ .no) .no)) .no)))] Tryz.f44 (.two .no (.two .no (.two .no (.two .no (.two (.two .no (.two (.cut ⟨⟨[0, 4, 6, 19], [], [.s 5 (.own 3 (.int .i64)), .s 20 (.dat (.int .i64)), .l (.sl 0) (.mat 30 43 (.leaf 3)), .l (.sl 6) (.box 43 (.dat (.leaf 3)))]⟩, [(.exit 0, ⟨[0, 4, 6], [], [.s 5 (.own 3 (.int .i64)), .l (.sl 0) (.mat 30 43 (.leaf 3)), .l (.sl 6) (.box 43 (.dat (.leaf 3)))]⟩)]⟩ (.two (.two .no (.two .no (.two (.cut ⟨⟨[], [], []⟩, [(.norm, ⟨[0, 4, 6, 19, 20], [], [.s 5 (.own 3 (.int .i64)), .l (.sl 0) (.mat 30 43 (.leaf 3)), .l (.sl 6) (.box 43 (.dat (.leaf 3)))]⟩)]⟩ (.two (.two .no (.two .no (.two .no (.two (.two (.cut ⟨⟨[0, 4, 5, 6, 7, 8, 19, 20], [], [.s 9 (.dat (.int .i64))]⟩, [(.exit 2, ⟨[0, 4, 5, 6, 7, 8, 19, 20], [], [.s 9 (.dat (.int .i64))]⟩)]⟩ (.two (.two (.two (.cut ⟨⟨[], [], []⟩, [(.norm, ⟨[0, 4, 5, 6, 7, 8, 9, 19, 20], [], [.s 40 (.dat .bool)]⟩)]⟩ .no) .no) .no) .no)) .no) (.two .no (.two (.two .no (.cut ⟨⟨[], [], []⟩, [(.norm, ⟨[0, 4, 5, 6, 7, 8, 19, 20], [], [.l (.sl 0) (.mat 30 43 (.leaf 3)), .l (.sl 6) (.box 43 (.dat (.leaf 3)))]⟩)]⟩ .no)) (.two .no (.two .no (.two (.two .no (.two (.cut ⟨⟨[0, 4, 5, 6, 7, 8, 10, 19, 20, 83], [], [.s 84 (.dat (.int .i64)), .l (.sl 0) (.mat 30 43 (.leaf 3))]⟩, [(.exit 4, ⟨[0, 4, 5, 6, 7, 8, 19, 20], [], [.l (.sl 0) (.mat 30 43 (.leaf 3))]⟩)]⟩ .no) .no)) (.two (.two .no (.two (.cut ⟨⟨[0, 4, 5, 6, 7, 8, 19, 20, 108], [], [.s 109 (.dat (.int .i64)), .l (.sl 0) (.mat 30 43 (.leaf 3))]⟩, [(.exit 6, ⟨[0, 4, 5, 6, 7, 19, 20], [], [.l (.sl 0) (.mat 30 43 (.leaf 3))]⟩)]⟩ (.two (.two .no (.two .no (.two (.cut ⟨⟨[], [], []⟩, [(.norm, ⟨[0, 4, 5, 6, 7, 8, 19, 20, 108, 109], [], [.l (.sl 0) (.mat 30 43 (.leaf 3))]⟩)]⟩ (.two (.two .no (.two .no (.two (.two (.cut ⟨⟨[], [], []⟩, [(.norm, ⟨[0, 4, 5, 6, 7, 8, 12, 13, 19, 20, 108, 109], [], [.s 126 (.dat .bool)]⟩)]⟩ .no) .no) (.two .no (.two (.cut ⟨⟨[0, 4, 5, 6, 7, 8, 12, 13, 19, 20, 108, 109, 131], [], [.s 132 (.dat (.int .i64)), .l (.sl 0) (.mat 30 43 (.leaf 3))]⟩, [(.exit 8, ⟨[0, 4, 5, 6, 7, 8, 19, 20, 108, 109], [], [.l (.sl 0) (.mat 30 43 (.leaf 3))]⟩)]⟩ .no) .no))))) .no)) .no))) .no)) .no)) .no)))))))))) .no)) .no))) .no)) .no)) .no))))) [.slice (.slice (.leaf 3))] [.slice (.slice (.leaf 3)), .slice (.int .i64), .leaf 3] (m) = ZIf m := by kernel_rfl
theorem Z3n : Zj Tryz.prog Zof.1 Zof.2 := Zn (C := ⟨Tryz.prog, [(39, 0), (41, 2), (43, 3), (91, 1), (93, 4)], [ZOd, Zbe, Z9b, Zff, ZPc, ZNg], [8], [ZId], [], [((43, "Div"), 213), ((43, "Mul"), 30), ((43, "Neg"), 117), ((43, "Sub"), 71), ((43, "Zero"), 22)], []⟩) ⟨Zfl, Z9k, Zjh, ZIo, Zxj, ZHs, trivial⟩ ⟨Zpk, trivial⟩ trivial ⟨ZYp, ZGk, Zqk, ZVs, ZSo, trivial⟩ (inl := [(47, Tryz.f47, .cut ⟨⟨[], [], []⟩, [(.ret, ⟨[], [], [.s 1000 (.dat (.int .i64))]⟩)]⟩ .no), (95, Tryz.f95, .two .no (.two .no (.two (.two .no (.two (.cut ⟨⟨[3, 9, 10], [], [.s 11 (.dat (.int .i64)), .l (.sl 3) (.mat 30 43 (.leaf 3))]⟩, [(.exit 0, ⟨[3], [], [.l (.sl 3) (.mat 30 43 (.leaf 3))]⟩)]⟩ .no) .no)) .no)))]) ⟨⟨Tryz.func47, fun _ _ => by kernel_rfl⟩, ⟨Tryz.func95, fun _ _ => by kernel_rfl⟩, trivial⟩ (ann := (.two .no (.two .no (.two .no (.two .no (.two (.two .no (.two (.cut ⟨⟨[0, 4, 6, 19], [], [.s 5 (.own 3 (.int .i64)), .s 20 (.dat (.int .i64)), .l (.sl 0) (.mat 30 43 (.leaf 3)), .l (.sl 6) (.box 43 (.dat (.leaf 3)))]⟩, [(.exit 0, ⟨[0, 4, 6], [], [.s 5 (.own 3 (.int .i64)), .l (.sl 0) (.mat 30 43 (.leaf 3)), .l (.sl 6) (.box 43 (.dat (.leaf 3)))]⟩)]⟩ (.two (.two .no (.two .no (.two (.cut ⟨⟨[], [], []⟩, [(.norm, ⟨[0, 4, 6, 19, 20], [], [.s 5 (.own 3 (.int .i64)), .l (.sl 0) (.mat 30 43 (.leaf 3)), .l (.sl 6) (.box 43 (.dat (.leaf 3)))]⟩)]⟩ (.two (.two .no (.two .no (.two .no (.two (.two (.cut ⟨⟨[0, 4, 5, 6, 7, 8, 19, 20], [], [.s 9 (.dat (.int .i64))]⟩, [(.exit 2, ⟨[0, 4, 5, 6, 7, 8, 19, 20], [], [.s 9 (.dat (.int .i64))]⟩)]⟩ (.two (.two (.two (.cut ⟨⟨[], [], []⟩, [(.norm, ⟨[0, 4, 5, 6, 7, 8, 9, 19, 20], [], [.s 40 (.dat .bool)]⟩)]⟩ .no) .no) .no) .no)) .no) (.two .no (.two (.two .no (.cut ⟨⟨[], [], []⟩, [(.norm, ⟨[0, 4, 5, 6, 7, 8, 19, 20], [], [.l (.sl 0) (.mat 30 43 (.leaf 3)), .l (.sl 6) (.box 43 (.dat (.leaf 3)))]⟩)]⟩ .no)) (.two .no (.two .no (.two (.two .no (.two (.cut ⟨⟨[0, 4, 5, 6, 7, 8, 10, 19, 20, 83], [], [.s 84 (.dat (.int .i64)), .l (.sl 0) (.mat 30 43 (.leaf 3))]⟩, [(.exit 4, ⟨[0, 4, 5, 6, 7, 8, 19, 20], [], [.l (.sl 0) (.mat 30 43 (.leaf 3))]⟩)]⟩ .no) .no)) (.two (.two .no (.two (.cut ⟨⟨[0, 4, 5, 6, 7, 8, 19, 20, 108], [], [.s 109 (.dat (.int .i64)), .l (.sl 0) (.mat 30 43 (.leaf 3))]⟩, [(.exit 6, ⟨[0, 4, 5, 6, 7, 19, 20], [], [.l (.sl 0) (.mat 30 43 (.leaf 3))]⟩)]⟩ (.two (.two .no (.two .no (.two (.cut ⟨⟨[], [], []⟩, [(.norm, ⟨[0, 4, 5, 6, 7, 8, 19, 20, 108, 109], [], [.l (.sl 0) (.mat 30 43 (.leaf 3))]⟩)]⟩ (.two (.two .no (.two .no (.two (.two (.cut ⟨⟨[], [], []⟩, [(.norm, ⟨[0, 4, 5, 6, 7, 8, 12, 13, 19, 20, 108, 109], [], [.s 126 (.dat .bool)]⟩)]⟩ .no) .no) (.two .no (.two (.cut ⟨⟨[0, 4, 5, 6, 7, 8, 12, 13, 19, 20, 108, 109, 131], [], [.s 132 (.dat (.int .i64)), .l (.sl 0) (.mat 30 43 (.leaf 3))]⟩, [(.exit 8, ⟨[0, 4, 5, 6, 7, 8, 19, 20, 108, 109], [], [.l (.sl 0) (.mat 30 43 (.leaf 3))]⟩)]⟩ .no) .no))))) .no)) .no))) .no)) .no)) .no)))))))))) .no)) .no))) .no)) .no)) .no)))))) Tryz.func44 (fun _ _ => by kernel_rfl) rfl (fun v vals x z ha hz => (ZRu x).trans hz)
end Go.Eng
set_option maxRecDepth 100000
set_option maxHeartbeats 4000000
namespace Go.Eng
open Go.Proofs Go.RowKit
noncomputable def Z5e:FuncId×Con:=(11,⟨[.slice (.slice (.leaf 3))],[.slice (.slice (.leaf 3)),.slice (.int .i64),.int .i64],fun p=>ZMd p⟩)
theorem ZTt (m:List (List Rat)):Zk ⟨Tryz.prog,[(39,0),(41,2),(43,3),(91,1),(93,4)],[Zgf,Zof],[],[],[],[],[]⟩ [] Tryz.f11 .no [.slice (.slice (.leaf 3))] [.slice (.slice (.leaf 3)),.slice (.int .i64),.int .i64] (m)=ZMd m:=by kernel_rfl
theorem Z3o:Zj Tryz.prog Z5e.1 Z5e.2:=Zn (C:=⟨Tryz.prog,[(39,0),(41,2),(43,3),(91,1),(93,4)],[Zgf,Zof],[],[],[],[],[]⟩) ⟨ZVo,Z3n,trivial⟩ trivial trivial trivial (inl:=[]) trivial (ann:=.no) Tryz.func11 (fun _ _=>by kernel_rfl) rfl (fun v vals x z ha hz=>(ZTt x).trans hz)
end Go.Eng
set_option maxRecDepth 100000
set_option maxHeartbeats 4000000
namespace Go.Eng
open Go.Proofs Go.RowKit
noncomputable def Z3k:FuncId×Con:=(96,⟨[.slice (.int .i64),.int .i64],[.int .i64],fun p=>Ztj p.1 p.2⟩)
theorem Ztu (l:(List Int)) (v:Int):Zk ⟨Tryz.prog,[(39,0),(41,2),(43,3),(91,1),(93,4)],[],[],[],[],[],[]⟩ [] Tryz.f96 (.two .no (.two (.two .no (.cut ⟨⟨[],[],[]⟩,[(.norm,⟨[],[],[]⟩),(.ret,⟨[],[],[.s 1000 (.dat (.int .i64))]⟩)]⟩ (.two (.cut ⟨⟨[0,1,7],[],[.s 8 (.dat (.int .i64))]⟩,[(.ret,⟨[],[],[.s 1000 (.dat (.int .i64))]⟩),(.exit 0,⟨[],[],[]⟩)]⟩ .no) .no))) .no)) [.slice (.int .i64),.int .i64] [.int .i64] (l,v)=Ztj l v:=by kernel_rfl
theorem ZEy:Zj Tryz.prog Z3k.1 Z3k.2:=Zn (C:=⟨Tryz.prog,[(39,0),(41,2),(43,3),(91,1),(93,4)],[],[],[],[],[],[]⟩) trivial trivial trivial trivial (inl:=[]) trivial (ann:=.two .no (.two (.two .no (.cut ⟨⟨[],[],[]⟩,[(.norm,⟨[],[],[]⟩),(.ret,⟨[],[],[.s 1000 (.dat (.int .i64))]⟩)]⟩ (.two (.cut ⟨⟨[0,1,7],[],[.s 8 (.dat (.int .i64))]⟩,[(.ret,⟨[],[],[.s 1000 (.dat (.int .i64))]⟩),(.exit 0,⟨[],[],[]⟩)]⟩ .no) .no))) .no)) Tryz.func96 (fun _ _=>by kernel_rfl) rfl fun v vals x z ha hz=>(Ztu x.1 x.2).trans (hz)
end Go.Eng
set_option maxRecDepth 100000
set_option maxHeartbeats 4000000
namespace Go.Eng
open Go.Proofs Go.RowKit
noncomputable def ZHl:FuncId×Con:=(48,⟨[.slice (.int .i64),.int .i64],[.bool],fun p=>ZAi p.1 p.2⟩)
theorem Ziy (l:(List Int)) (v:Int):Zk ⟨Tryz.prog,[(39,0),(41,2),(43,3),(91,1),(93,4)],[Z3k],[],[],[],[],[]⟩ [] Tryz.f48 .no [.slice (.int .i64),.int .i64] [.bool] (l,v)=ZAi l v:=by kernel_rfl
theorem Zex:Zj Tryz.prog ZHl.1 ZHl.2:=Zn (C:=⟨Tryz.prog,[(39,0),(41,2),(43,3),(91,1),(93,4)],[Z3k],[],[],[],[],[]⟩) ⟨ZEy,trivial⟩ trivial trivial trivial (inl:=[]) trivial (ann:=.no) Tryz.func48 (fun _ _=>by kernel_rfl) rfl fun v vals x z ha hz=>(Ziy x.1 x.2).trans (hz)
noncomputable def ZUl (x:Int) (y:Int):Option (Int×Int) :=
 bnd (ZEc x y) fun a =>
 some ((a.1,a.2))
end Go.Eng
namespace Go.Eng
open Go.Proofs Go.RowKit
theorem bmul_w {c:World} {a:Zb} (hv:VIn a c) {d:List Value} {x:Int} (i:Rep.rel (Zd .u64) a d x) {e:List Value} {y:Int} (j:Rep.rel (Zd .u64) a e y) {z:Int×Int} (H:ZUl x y=some z):Ret Tryz.prog 139 #[(Zd .u64).val d,(Zd .u64).val e] c a (fun y v'=>∃ g b,y = .tuple #[(Zd .u64).val g,(Zd .u64).val b]∧(Zd .u64).rel v' g z.1∧(Zd .u64).rel v' b z.2):=by
 obtain ⟨rfl,b⟩:=i;obtain ⟨rfl,k⟩:=j;refine ZWb (K:=30) (args:=[.int .u64 x,.int .u64 y]) hv Tryz.func139 rfl rfl zl fun f S=>?_;unfold ZUl at H;refine sr (mw S rfl fun f S=>mw S rfl fun f S=>oe (Zm fun _ l=>ZR S rfl rfl (wp_skip (Zh (l _ _ (Zm fun _ m=>bO H fun h n H=>Zv (mv S rfl fun f S=>mv S rfl fun f S=>opc S rfl (Zaa S [.int .u64 x,.int .u64 y] ZLo rfl rfl) (Zko S.vin (show Rep.rel (Zd .u64) _ [.int .u64 x] x from (ZD b)) (show Rep.rel (Zd .u64) _ [.int .u64 y] y from (ZD k)) n) ?_)))))));rintro _ s f w t ⟨u,v,rfl,o,p⟩ S;obtain ⟨rfl,q⟩:=o;obtain ⟨rfl,r⟩:=p;refine mv S rfl fun f S=>ov S rfl (ZFa S rfl rfl) fun f S=>ov S rfl (ZFa S rfl rfl) fun f S=>mw S rfl fun f S=>mw S rfl fun f S=>Zs (Zh (m _ _ (sr (mv S rfl fun f S=>mv S rfl fun f S=>mw S rfl fun f S=>mw S rfl fun f S=>oe (wp_ret ?_)))));obtain rfl:=Zp H;refine ZMa S (Z7e rfl (ZW S rfl) (ZW S rfl)) ⟨[.int .u64 (h.1)],[.int .u64 (h.2)],rfl,(ZD q),(ZD r)⟩
set_option maxRecDepth 100000
theorem Zto:Elem Tryz.prog 30 43 (Zxb).n 56 (Value.agg #[Value.bool false,Value.slice none 0 0,Value.slice none 0 0]):=⟨Tryz.underlying30,by kernel_rfl,rfl,by decide⟩
theorem Zgl:Zod Tryz.prog 30 43 (Zxb).n:=⟨fun _=>by kernel_rfl,fun _=>by kernel_rfl⟩
theorem Zut:Tryz.prog.follows .mixedOrders=true:=by kernel_rfl
theorem Zzt:Z6 Tryz.prog 139:=fun _ _=>by kernel_rfl
theorem ZAp:Zyj Tryz.prog 3 187 .i64 .u64:=fun _ _=>by kernel_rfl
theorem Znv:Zyj Tryz.prog 187 3 .u64 .i64:=fun _ _=>by kernel_rfl
noncomputable def ZPf:FuncId×ConO:=(97,⟨[.slice (.leaf 3),.int .i64],43,.leaf 3,fun p=>Zze 56 p.1 p.2⟩)
theorem Zin:ZFg Tryz.prog ZPf.1 ZPf.2:=fun w v vals x z hv ha hz=>by
 obtain ⟨cs,vs,rfl,p0,c1,rfl,rfl,hin⟩:=ha
 obtain ⟨x1,k0⟩:=x
 have hz:Zze 56 (show List Rat from x1) k0=some z:=hz
 obtain ⟨y,hx1,hzr,hmk⟩:=ZOw hz
 have hx1:x1=[y]:=hx1
 subst hx1 hzr
 obtain ⟨h0,_,hb1,hb2⟩:=ZUa hmk
 obtain ⟨k,rfl⟩:=Int.eq_ofNat_of_zero_le h0
 obtain ⟨q,c,e,hc1,hc2,hne⟩:=(show (Zw Zxb).rel v cs [y] from p0)
 subst e
 rcases hne with hne | ⟨b,off,cc,TT,fr,rfl,hvb,hrel⟩
 ·cases hne
 have hlen1:([y]:List Rat).length=1:=rfl
 rw [hlen1] at hrel
 obtain ⟨c1,c2,e12,hrc,e2⟩:=hrel
 have e2:c2=[]:=e2
 subst e2
 rw [List.append_nil,Nat.one_mul] at e12
 have hl1:=Rep.len _ hrc
 have hAt:At v b off c1:=⟨cc,TT,fr,hvb,by rw [hl1];exact e12⟩
 refine ⟨fun _ _=>by kernel_rfl,?_⟩
 have hk:((k:Int).toNat)=k:=Int.toNat_natCast k
 rw [hk]
 refine ZRk (K:=48) (args:=[.slice (some ⟨b,off,none⟩) 1 c,.int .i64 (k:Int)]) hv Tryz.func97 rfl rfl zl fun fa hS=>?_
 refine sr ?_
 refine mw hS rfl fun fa hS=>?_
 refine oe ?_
 refine wp_seq_k fun N1 hN1=>?_
 refine sr ?_
 refine mv hS rfl fun fa hS=>?_
 refine ov hS rfl (Zg hS rfl rfl Zlc) fun fa hS=>?_
 refine oe ?_
 refine ZR hS rfl (decide_eq_false (by omega)) ?_
 refine wp_skip ?_
 refine Zh (hN1 _ _ ?_)
 refine sr ?_
 refine mv hS rfl fun fa hS=>?_
 refine ov hS rfl (ZKe hS rfl rfl Zgl) fun fa hS=>?_
 refine ov hS rfl (Zae hS rfl (ZAp _)) fun fa hS=>?_
 refine mv hS rfl fun fa hS=>?_
 refine ov hS rfl (Zae hS rfl (ZAp _)) fun fa hS=>?_
 have w1:IntKind.u64.wrap ((1:Nat):Int)=1:=by decide
 have w2:IntKind.u64.wrap (k:Int)=k:=Zwe (Z3c.2 (by omega))
 rw [w1,w2] at hS
 have hmul:ZUl 1 (k:Int)=some (0,(k:Int)):=by
  unfold ZUl ZEc;rw [if_pos (by omega),Za];simp only;congr 2 <;> omega
 refine Z0r hS wn rfl zl (Zaa hS [.int .u64 1,.int .u64 (k:Int)] Zzt rfl rfl) (bmul_w hS.vin (show Rep.rel (Zd .u64) _ [.int .u64 1] 1 from ZD (by decide)) (show Rep.rel (Zd .u64) _ [.int .u64 (k:Int)] (k:Int) from ZD (Z3c.2 (by omega))) hmul) ?_;rintro _ v1 fa wo hle ⟨r0,r1,rfl,⟨rfl,_⟩,⟨rfl,_⟩⟩ hS;refine mv hS rfl fun fa hS=>?_;refine ov hS rfl (ZFa hS rfl rfl) fun fa hS=>?_;refine ov hS rfl (ZFa hS rfl rfl) fun fa hS=>?_;refine mw hS rfl fun fa hS=>?_;refine mw hS rfl fun fa hS=>?_;refine oe ?_;refine wp_seq_k fun N2 hN2=>?_;refine sr ?_;refine mv hS rfl fun fa hS=>?_;refine ov hS rfl (Zg hS rfl rfl Z5c) fun fa hS=>?_;have g1:decide ((0:Int)<0)=false:=rfl;have hS:St _ _ _ ((22,Value.bool false) :: _) _ _ _ _:=hS;refine mv hS rfl fun fa hS=>?_;refine op_v hS (Zbg hS rfl rfl rfl zl) rfl zl (ZA hS rfl) fun fa hS=>?_;refine op_v hS (Zbg hS rfl rfl rfl zl) rfl zl (Zg hS rfl rfl Z5c) fun fa hS=>?_;refine ov hS rfl (ZMb (b:=false) hS rfl rfl) fun fa hS=>?_;refine oe ?_;refine ZR hS rfl (decide_eq_false (by omega)) ?_;refine wp_skip ?_;refine Zh (hN2 _ _ ?_);refine sr ?_;refine mv hS rfl fun fa hS=>?_;refine ov hS rfl (Zae hS rfl (Znv _)) fun fa hS=>?_;have w3:IntKind.i64.wrap (k:Int)=k:=Zwe (Zeb.2 (by omega));rw [w3] at hS;obtain ⟨b2,wo,hrun,hS'⟩:=Zqo Zto hS (l:=(k:Int)) (c:=(k:Int)) h0 (Int.le_refl _) hb1 hb2
 refine ZSb wn rfl zl (hrun rfl rfl) hS' fun fa hS=>?_;refine mw hS rfl fun fa hS=>?_;refine oe ?_;rw [hk] at hS;have hS:=hS.fr' (σ':=[(7,.slice (mkA (some b2)) k k),(0,.slice (some ⟨b,off,none⟩) 1 c)]) rfl;have src1:∀ {σ:List (Nat×Value)} {ℓ:List Loc} {v':Zb} {a:Act} {w':World},St 48 w v σ ℓ v' a w'→∀ j u,c1[j]? = some u→w'.cell? ((⟨b,off,none⟩:Addr).add j)=some u:=fun hS j u hu=>by
  have:=(hS.view (At.mono hS.vst.le hAt)).cell hu
  rwa [ZOa]
 have hpl1:c1.all plain=true:=Rep.flat _ hrc;obtain ⟨zc,hzc⟩:∃ zc:List Value,zc=(Value.agg #[Value.bool false,Value.slice none 0 0,Value.slice none 0 0]:Value).cells.toList:=⟨_,rfl⟩;have hzl:zc.length=(Zxb).n:=by rw [hzc];rfl
 rw [← hzc] at hS
 let Inv:Nat→Act→World→Prop:=fun j a w'=>∃ v',j≤k∧(0<k→0<j)∧St 48 w v [(8,.int .i64 (j:Int)),(7,.slice (mkA (some b2)) k k)] [.own (some b2) 43 (Zxb).n k k ((List.replicate j c1).flatten++(List.replicate (k-j) zc).flatten)] v' a w'
 have rl:=fun n=>Zll hl1 n;have rpl:∀ n:Nat,((List.replicate n c1).flatten).all plain=true:=fun n=>Zxt hpl1 n;have step:=fun j m (hjm:j+m≤k)=>rp_step (k:=k) hl1 hzl hjm;refine sr ?_;refine mv hS rfl fun fa hS=>?_;refine mv hS rfl fun fa hS=>?_;have hS1:St 48 w v _ [.own (some b2) 43 (Zxb).n k k ((List.replicate 0 c1).flatten++(List.replicate (k-0) zc).flatten)] v1 fa wo:=hS;obtain ⟨wo2,hr,hS'⟩:=Zsr (t:=30) (sT:=30) Zto hS1 (i:=0) rfl (p:=0) (k:=min 1 k) (c:=(List.replicate (min 1 k) c1).flatten) (rl _) (by omega) (rpl _) (ad:=⟨b,off,none⟩) (sLen:=1) (sCap:=c) (dLen:=k) (dCap:=k) (fun j u hu=>by
  rcases Nat.lt_or_ge 0 k with hk0 | hk0
  ·rw [show min 1 k=1 by omega] at hu;simp only [List.replicate_one,List.flatten_cons,List.flatten_nil,List.append_nil] at hu;exact src1 hS1 j u hu
  ·rw [show min 1 k=0 by omega] at hu;simp at hu) rfl
 have hst:=step 0 (min 1 k) (by omega);simp only [List.set_cons_zero] at hS';rw [hst] at hS';simp only [Nat.zero_add] at hS';rw [Nat.zero_mul] at hr;refine ZSb wn rfl zl (Zos hS1 rfl rfl (hr _)) hS' fun fa hS=>?_;refine mw hS rfl fun fa hS=>?_;refine oe ?_;have hS:=hS.fr' (σ':=[(8,.int .i64 ((min 1 k:Nat):Int)),(7,.slice (mkA (some b2)) k k)]) rfl;refine wp_seq_k fun N3 hN3=>?_;refine wp_block ?_;refine wp_loop_fuel (fun m a w'=>∃ j,k-j<m∧Inv j a w') (k+1) ⟨min 1 k,by omega,v1,by omega,by omega,hS⟩ (fun a w' ⟨j,h,_⟩=>by omega) ?_;rintro m fa wo3 ⟨j,hjm,v3,hjk,hj0,hS⟩ N hN;refine wp_seq_k fun N4 hN4=>?_;refine sr ?_;refine mv hS rfl fun fa hS=>?_;refine mv hS rfl fun fa hS=>?_;refine ov hS rfl (ZKe hS rfl rfl Zgl) fun fa hS=>?_;refine ov hS rfl (Zg hS rfl rfl Zlc) fun fa hS=>?_;refine oe ?_;by_cases hlt:j<k
 ·refine ZX hS rfl (decide_eq_true (by omega)) ?_;refine wp_skip ?_;refine Zh (hN4 _ _ ?_);refine wp_block ?_;have hS:=hS.fr' (σ':=[(8,.int .i64 (j:Int)),(7,.slice (mkA (some b2)) k k)]) rfl;refine Zje (fl:=#[true,true,true,true,true,true,true,false,false,false]) Zut (by kernel_rfl) hS ?_;intro ops hops hF wo hS;refine rf hops hF 0 rfl (by kernel_rfl) rfl hS (ZA hS rfl) fun fa hS=>?_;refine rf hops hF 1 rfl (by kernel_rfl) rfl hS (ZA hS rfl) fun fa hS=>?_;refine rf hops hF 2 rfl (by kernel_rfl) rfl hS (ZA hS rfl) fun fa hS=>?_;refine rf hops hF 3 rfl (by kernel_rfl) rfl hS (ZUu hS Zgl rfl rfl (by omega) (by omega)) fun fa hS=>?_;refine rf hops hF 4 rfl (by kernel_rfl) rfl hS (ZA hS rfl) fun fa hS=>?_;refine rf hops hF 5 rfl (by kernel_rfl) rfl hS (ZA hS rfl) fun fa hS=>?_;refine rf hops hF 6 rfl (by kernel_rfl) rfl hS (ZQy hS Zgl rfl rfl (by omega) (by omega)) fun fa hS=>?_;rw [Nat.zero_add] at hS;obtain ⟨wo',hr,hS'⟩:=Zsr (t:=30) (sT:=30) Zto hS (i:=0) rfl (p:=j) (k:=min j (k-j)) (c:=(List.replicate (min j (k-j)) c1).flatten) (rl _) (by omega) (rpl _) (ad:=⟨b2,0,none⟩) (sLen:=j) (sCap:=k) (dLen:=k-j) (dCap:=k-j) (fun i u hu=>by
   have hi:=(List.getElem?_eq_some_iff.1 hu).1;refine ZZk hS (j:=0) rfl i u ?_;rw [Ziq (c:=c1) (m:=min j (k-j)) (n:=j) (by omega),List.append_assoc,List.getElem?_append_left hi];exact hu) rfl
  have hst:=step j (min j (k-j)) (by omega);simp only [List.set_cons_zero] at hS';rw [hst] at hS';refine Zhm hops hF 7 (by kernel_rfl) ?_;refine nx_ex' [3,6,1,2,4,5] [0] hops rfl (by kernel_rfl) wn rfl zl (Zos hS rfl rfl (hr _)) hS' fun fa hS=>?_;refine ⟨(py hS rfl rfl (ZA hS rfl) Zpc),?_⟩;refine Zhm hops hF 8 (by kernel_rfl) ?_;have hadd:chk .i64 ((j:Int)+((min j (k-j):Nat):Int))=some ((j+min j (k-j):Nat):Int):=by rw [Zu (by omega) (by omega)];rfl
  refine nv [0,7,3,6,1,2,4,5] [] hops rfl (by kernel_rfl) rfl hS (Zg hS rfl rfl (ZZa hadd)) fun fa hS=>?_;refine ⟨Zpc,?_⟩;refine Zhm hops hF 9 (by kernel_rfl) ?_;refine nv [0,1,2,3,4,5,6,7,8] [] hops rfl (by kernel_rfl) rfl hS (Z6c hS rfl) fun fa hS=>?_;refine ⟨Zpc,?_⟩;refine Zys hops hF (by kernel_rfl) ?_;refine ZEb ?_;have hj0:=hj0 (by omega);exact Zh (hN _ _ ⟨j+min j (k-j),by omega,v3,by omega,fun _=>by omega,hS.fr' rfl⟩)
 refine ZR hS rfl (decide_eq_false (by omega)) ?_;refine wp_exit ?_;refine Z2 ?_;refine Z2 ?_;refine Zjb ?_;refine Zh (hN3 _ _ ?_);have hjk:j=k:=by omega
 subst hjk;rw [Nat.sub_self,List.replicate_zero,List.flatten_nil,List.append_nil] at hS;refine sr ?_;refine mv hS rfl fun fa hS=>?_;refine mw hS rfl fun fa hS=>?_;refine oe ?_;refine wp_ret ?_;exact ZVn hS (i:=0) rfl (ZVa rfl (ZW hS rfl)) (ZIe (Rep.mono _ hS.vst.le hrc) _) (List.length_replicate (n:=j) (a:=y)).symm
end Go.Eng
set_option maxRecDepth 100000
set_option maxHeartbeats 4000000
namespace Go.Eng
open Go.Proofs Go.RowKit
noncomputable def ZPg:FuncId×Con:=(14,⟨[.slice (.slice (.leaf 3))],[.slice (.slice (.leaf 3)),.int .i64],fun p=>Zlf p⟩)
theorem Zhu (m : List (List Rat)) : Zk ⟨Tryz.prog, [(39, 0), (41, 2), (43, 3), (91, 1), (93, 4)], [Zgf, Zof, Znf, ZHl, Z9b, ZPc], [], [ZPf], [], [((43, "Neg"), 117)], []⟩ [(49, Tryz.f49, .no)] Tryz.f14 (.two .no (.two .no (.two .no (.two .no (.two (.two .no (.two (.cut ⟨⟨[0, 4, 5, 22], [], [.s 7 (.own 30 (.slice (.leaf 3))), .s 23 (.dat (.int .i64))]⟩, [(.exit 0, ⟨[], [], [.s 7 (.own 30 (.slice (.leaf 3)))]⟩)]⟩ (.two (.two .no (.two .no (.two (.cut ⟨⟨[], [], []⟩, [(.norm, ⟨[0, 4, 5, 22, 23], [], [.s 7 (.own 30 (.slice (.leaf 3)))]⟩)]⟩ (.two (.two .no (.two .no (.two .no (.two .no (.two (.two .no (.two (.cut ⟨⟨[0, 4, 5, 7, 8, 9, 22, 23, 36, 37], [], [.s 38 (.dat (.int .i64)), .l (.sl 9) (.own 43 (.leaf 3))]⟩, [(.exit 2, ⟨[0, 4, 5, 7, 9, 22, 23], [], [.l (.sl 9) (.own 43 (.leaf 3))]⟩)]⟩ .no) .no)) .no))))) .no)) .no))) .no)) .no)) .no))))) [.slice (.slice (.leaf 3))] [.slice (.slice (.leaf 3)), .int .i64] (m) = Zlf m := by kernel_rfl
theorem Zzr : Zj Tryz.prog ZPg.1 ZPg.2 := Zn (C := ⟨Tryz.prog, [(39, 0), (41, 2), (43, 3), (91, 1), (93, 4)], [Zgf, Zof, Znf, ZHl, Z9b, ZPc], [], [ZPf], [], [((43, "Neg"), 117)], []⟩) ⟨ZVo, Z3n, Zkn, Zex, Zjh, Zxj, trivial⟩ ⟨Zin, trivial⟩ trivial ⟨Zqk, trivial⟩ (inl := [(49, Tryz.f49, .no)]) ⟨⟨Tryz.func49, fun _ _ => by kernel_rfl⟩, trivial⟩ (ann := (.two .no (.two .no (.two .no (.two .no (.two (.two .no (.two (.cut ⟨⟨[0, 4, 5, 22], [], [.s 7 (.own 30 (.slice (.leaf 3))), .s 23 (.dat (.int .i64))]⟩, [(.exit 0, ⟨[], [], [.s 7 (.own 30 (.slice (.leaf 3)))]⟩)]⟩ (.two (.two .no (.two .no (.two (.cut ⟨⟨[], [], []⟩, [(.norm, ⟨[0, 4, 5, 22, 23], [], [.s 7 (.own 30 (.slice (.leaf 3)))]⟩)]⟩ (.two (.two .no (.two .no (.two .no (.two .no (.two (.two .no (.two (.cut ⟨⟨[0, 4, 5, 7, 8, 9, 22, 23, 36, 37], [], [.s 38 (.dat (.int .i64)), .l (.sl 9) (.own 43 (.leaf 3))]⟩, [(.exit 2, ⟨[0, 4, 5, 7, 9, 22, 23], [], [.l (.sl 9) (.own 43 (.leaf 3))]⟩)]⟩ .no) .no)) .no))))) .no)) .no))) .no)) .no)) .no)))))) Tryz.func14 (fun _ _ => by kernel_rfl) rfl (fun v vals x z ha hz => (Zhu x).trans hz)
end Go.Eng
namespace Go.Eng
open Go.Proofs Go.RowKit
theorem Zzy {r:World} {d:Zb} (hv:VIn d r) {D:List Value} {n:Int} (L:Rep.rel (Zd .u64) d D n) {z:(List UInt8)} (H:Zcm n=some z):Ret Tryz.prog 128 #[(Zd .u64).val D] r d (fun y v'=>∃ E,y=Zib.val E∧Zib.rel v' E z):=by
 obtain ⟨rfl,M⟩:=L;refine ZWb (K:=20) (args:=[.int .u64 n]) hv Tryz.func128 rfl rfl zl fun f S=>?_;unfold Zcm at H;refine sr (mw S rfl fun f S=>oe (sr (Z9q S wn rfl zl (cs:=[.int .u8 0,.int .u8 0,.int .u8 0,.int .u8 0,.int .u8 0,.int .u8 0,.int .u8 0,.int .u8 0,.int .u8 0,.int .u8 0,.int .u8 0,.int .u8 0,.int .u8 0,.int .u8 0,.int .u8 0,.int .u8 0,.int .u8 0,.int .u8 0,.int .u8 0,.int .u8 0]) (ZEn k_zv208) fun s f w S=>?_)));have S:=S.boxOwn 1 20 rfl zl;have N:Rep.rels (Zd .u8) d [.int .u8 0,.int .u8 0,.int .u8 0,.int .u8 0,.int .u8 0,.int .u8 0,.int .u8 0,.int .u8 0,.int .u8 0,.int .u8 0,.int .u8 0,.int .u8 0,.int .u8 0,.int .u8 0,.int .u8 0,.int .u8 0,.int .u8 0,.int .u8 0,.int .u8 0,.int .u8 0] (List.replicate 20 (0:Int)):=ZIe (show Rep.rel (Zd .u8) _ [Value.int .u8 0] 0 from ⟨rfl,by decide⟩) 20;refine oe (sr (mw S rfl fun f S=>oe (Zm fun _ O=>?_)));obtain ⟨P,Q,R⟩:=ZG H;refine ZBa (fun f w=>∃ l m B t,(l,m)=P∧Zb.le d t∧St 20 r d [(3,.pointer (some ⟨s,0,none⟩)),(4,.int .i64 m)] [Loc.own (some s) 208 1 20 20 B] t f w∧Rep.rels (Zd .u8) t B l∧20=l.length∧inR .i64 m) (fun _ T=>?_) ?_
 ·have H:=Q;refine wp_block ?_;obtain ⟨ak,U,V⟩:=ZG H;refine ZTb U (fun W f w=>∃ h o u b k,(h,o,u)=W∧Zb.le d k∧St 20 r d [(0,.int .u64 o),(3,.pointer (some ⟨s,0,none⟩)),(4,.int .i64 u)] [Loc.own (some s) 208 1 20 20 b] k f w∧Rep.rels (Zd .u8) k b h∧20=h.length∧inR .u64 o∧inR .i64 u) ⟨_,_,_,[.int .u8 0,.int .u8 0,.int .u8 0,.int .u8 0,.int .u8 0,.int .u8 0,.int .u8 0,.int .u8 0,.int .u8 0,.int .u8 0,.int .u8 0,.int .u8 0,.int .u8 0,.int .u8 0,.int .u8 0,.int .u8 0,.int .u8 0,.int .u8 0,.int .u8 0,.int .u8 0],_,rfl,(leR _),(S.fr' rfl),N,(List.length_replicate (n:=20) (a:=(0:Int))).symm,M,(by decide)⟩ ?_;rintro _ f w st ⟨h,o,u,b,k,hq,F,S,C,v,al,X⟩ H am Y Z;subst hq;refine Zm fun _ aa=>sr (mv S rfl fun f S=>ov S rfl (Zg S rfl rfl Z5c) fun f S=>oe ?_);rcases ZM (decide ((0:Int)<o)) with p | p
  ·have H:=ZL H p;refine ZX S rfl p (wp_skip (Zh (aa _ _ (Zm fun _ ab=>wp_block (Zm fun _ ac=>bO H fun e G H=>Zv (mv S rfl fun f S=>ov S rfl (Zg S rfl rfl (ZIa G)) fun f S=>mw S rfl fun f S=>Zs (Zh (ac _ _ (bO H fun g ad H=>?_)))))))));refine bO H fun an q H=>Zv (mv S rfl fun f S=>mv S rfl fun f S=>ov S rfl (Zg S rfl rfl (Zrf ad)) fun f S=>ov S rfl (Zg S rfl rfl Zfc) fun f S=>ov S rfl (Zae S rfl (ZXs _)) fun f S=>?_);have I:=Zpa C (Zi q).2.1;obtain ⟨ao,ae⟩:∃ c,(List.take (Zd .u8).n (List.drop ((e).toNat*(Zd .u8).n) b))=c:=⟨_,rfl⟩;rw [ae] at I;obtain ⟨rfl,ap⟩:=I;refine ov S rfl (Zfr S ZMq rfl rfl (Zi q).1 (ltI v (Zi q).2.2.1)) fun f S=>?_;obtain ⟨w,af,S⟩:=Z1b S k_sz5 (off:=0+(e).toNat*1) (z:=.int .u8 (IntKind.u8.wrap (IntKind.u64.wrap ((48:Int)+g)))) (cs:=[.int .u8 (IntKind.u8.wrap (IntKind.u64.wrap ((48:Int)+g)))]) (ZKb rfl) rfl (i:=0) rfl (ZVd S (j:=0) rfl (ltN v (Zi q).2.2.2)) (by first | rfl | simp [plain]);have ag:Rep.rels (Zd .u8) k (List.take (0+(e).toNat*1) b++[Value.int IntKind.u8 (IntKind.u8.wrap (IntKind.u64.wrap ((48:Int)+g)))]++List.drop (0+(e).toNat*1+1) b) (h.set (e).toNat (IntKind.u8.wrap (IntKind.u64.wrap ((48:Int)+g)))):=Zxd C (Zi q).2.2.2 (show Rep.rel (Zd .u8) k [.int .u8 (IntKind.u8.wrap (IntKind.u64.wrap ((48:Int)+g)))] _ from (ZD (Zsa _ _))) rfl rfl
   have ah:20=(h.set (e).toNat (IntKind.u8.wrap (IntKind.u64.wrap ((48:Int)+g)))).length:=Zce v;refine Zpg wn rfl (af rfl rfl) (Zs (ZEb (Zh (ab _ _ (bO H fun aq J H=>Zv (mv S rfl fun f S=>ov S rfl (Zg S rfl rfl (Zvc J)) fun f S=>mw S rfl fun f S=>Zs ?_))))));obtain rfl:=Zp H;refine Y _ rfl _ _ ⟨_,_,_,(List.take (0+(e).toNat*1) b++[Value.int IntKind.u8 (IntKind.u8.wrap (IntKind.u64.wrap ((48:Int)+g)))]++List.drop (0+(e).toNat*1+1) b),_,rfl,F,(S.fr' rfl),ag,ah,(Znj J),(ZCa G).2⟩
  have H:=ZN H p;refine ZR S rfl p (wp_exit (Z2 ?_));obtain rfl:=Zp H;have hq:=Z _ rfl;subst hq;have H:=V;refine Z2 (Zjb ?_);obtain rfl:=Zp H;refine Zh (T _ _ ⟨_,_,b,_,rfl,(leT (leR _) F),(S.fr' rfl),C,v,X⟩)
 rintro f w ⟨l,m,B,t,hq,ar,S,ai,x,au⟩;subst hq;have H:=R;refine Zh (O _ _ (Zm fun _ aj=>bO H fun av A H=>Zv (mv S rfl fun f S=>ov S rfl (Zcw S ZMq rfl rfl (Zfd A).1 (by have:=(Zfd A).2.1;have:=x;omega)) fun f S=>ov S rfl (Zfy S (j:=0) rfl ai x (by have:=(Zfd A).2.1;have:=(Zfd A).1;have:=x;omega) rfl Tryz.underlying174 Tryz.underlying5 Tryz.underlying9) fun f S=>mw S rfl fun f S=>Zs (Zh (aj _ _ (wp_ret ?_))))));obtain rfl:=Zp H;refine ZMa S (ZVa rfl (ZW S rfl)) ⟨[.string (Zy ((ZPd (l.drop ((m).toNat)))))],rfl,(ZIi (by have:=x;simp only [Zmx,List.length_drop];unfold maxLen;omega))⟩
theorem ZUv {b:World} {a:Zb} (hv:VIn a b) {c:List Value} {n:Int} (d:Rep.rel (Zd .u64) a c n) {z:(List UInt8)} (hm:Zth n=some z) :
  Ret Tryz.prog 128 #[(Zd .u64).val c] b a (fun y v'=>∃ e,y=Zib.val e∧Zib.rel v' e z) :=
 Zzy hv d (Zkx d.2 hm)
end Go.Eng
namespace Go.Proofs
open Go.Shelf
def Tryz.lays105_ren:Go.Shelf.Ren:=⟨fun | 105=>129 | 212=>139 | 99=>167 | 165=>168 | 166=>130 | 170=>169 | 169=>131 | 263=>174 | 264=>106 | 206=>183 | 240=>170 | 241=>184 | 276=>185 | 277=>194 | n=>n,fun | 9=>9 | 3=>3 | 4=>4 | 20=>20 | 0=>0 | 46=>187 | 109=>188 | 5=>5 | 72=>176 | 76=>179 | 51=>185 | 146=>216 | 53=>148 | 148=>152 | 70=>173 | 37=>174 | 75=>178 | 127=>211 | 164=>226 | 80=>88 | n=>n,fun | n=>n⟩
theorem Tryz.lays105:Go.Proofs.Lays.n105 Tryz.prog Tryz.lays105_ren:={
 mixed:=by kernel_rfl
 f99:=Tryz.func167.trans (congrArg some (by kernel_rfl))
 f105:=Tryz.func129.trans (congrArg some (by kernel_rfl))
 f165:=Tryz.func168.trans (congrArg some (by kernel_rfl))
 f166:=Tryz.func130.trans (congrArg some (by kernel_rfl))
 f169:=Tryz.func131.trans (congrArg some (by kernel_rfl))
 f170:=Tryz.func169.trans (congrArg some (by kernel_rfl))
 f206:=Tryz.func183.trans (congrArg some (by kernel_rfl))
 f212:=Tryz.func139.trans (congrArg some (by kernel_rfl))
 f240:=Tryz.func170.trans (congrArg some (by kernel_rfl))
 f241:=Tryz.func184.trans (congrArg some (by kernel_rfl))
 f263:=Tryz.func174.trans (congrArg some (by kernel_rfl))
 f264:=Tryz.func106.trans (congrArg some (by kernel_rfl))
 f276:=Tryz.func185.trans (congrArg some (by kernel_rfl))
 f277:=Tryz.func194.trans (congrArg some (by kernel_rfl))
 t0:=Tryz.underlying0
 a0:=Tryz.isAgg0
 z0:=Tryz.sizeOf0
 v0:=Tryz.zeroValue0
 t3:=Tryz.underlying3
 a3:=Tryz.isAgg3
 z3:=Tryz.sizeOf3
 v3:=Tryz.zeroValue3
 t4:=Tryz.underlying4
 a4:=Tryz.isAgg4
 z4:=Tryz.sizeOf4
 v4:=Tryz.zeroValue4
 t5:=Tryz.underlying5
 a5:=Tryz.isAgg5
 z5:=Tryz.sizeOf5
 v5:=Tryz.zeroValue5
 t9:=Tryz.underlying9
 a9:=Tryz.isAgg9
 z9:=Tryz.sizeOf9
 v9:=Tryz.zeroValue9
 t20:=Tryz.underlying20
 a20:=Tryz.isAgg20
 z20:=Tryz.sizeOf20
 v20:=Tryz.zeroValue20
 t37:=Tryz.underlying174
 a37:=Tryz.isAgg174
 z37:=Tryz.sizeOf174
 v37:=Tryz.zeroValue174
 t46:=Tryz.underlying187
 a46:=Tryz.isAgg187
 z46:=Tryz.sizeOf187
 v46:=Tryz.zeroValue187
 t51:=Tryz.underlying185
 a51:=Tryz.isAgg185
 z51:=Tryz.sizeOf185
 v51:=Tryz.zeroValue185
 t53:=Tryz.underlying148
 a53:=Tryz.isAgg148
 z53:=Tryz.sizeOf148
 v53:=Tryz.zeroValue148
 t70:=Tryz.underlying173
 a70:=Tryz.isAgg173
 z70:=Tryz.sizeOf173
 v70:=Tryz.zeroValue173
 t72:=Tryz.underlying176
 a72:=Tryz.isAgg176
 z72:=Tryz.sizeOf176
 v72:=Tryz.zeroValue176
 t75:=Tryz.underlying178
 a75:=Tryz.isAgg178
 z75:=Tryz.sizeOf178
 v75:=Tryz.zeroValue178
 t76:=Tryz.underlying179
 a76:=Tryz.isAgg179
 z76:=Tryz.sizeOf179
 v76:=Tryz.zeroValue179
 t109:=Tryz.underlying188
 a109:=Tryz.isAgg188
 z109:=Tryz.sizeOf188
 v109:=Tryz.zeroValue188
 t127:=Tryz.underlying211
 a127:=Tryz.isAgg211
 z127:=Tryz.sizeOf211
 v127:=Tryz.zeroValue211
 t146:=Tryz.underlying216
 a146:=Tryz.isAgg216
 z146:=Tryz.sizeOf216
 v146:=Tryz.zeroValue216
 t148:=Tryz.underlying152
 a148:=Tryz.isAgg152
 z148:=Tryz.sizeOf152
 v148:=Tryz.zeroValue152
 t164:=Tryz.underlying226
 a164:=Tryz.isAgg226
 z164:=Tryz.sizeOf226
 v164:=Tryz.zeroValue226 }
theorem Tryz.Builder_Extra_105:Builder.Extra Tryz.prog Tryz.lays105_ren:={
 sizeBuilder:=by kernel_rfl
 liesBuilder:=by kernel_rfl
 t5:=Tryz.underlying5
 a5:=Tryz.isAgg5
 z5:=Tryz.sizeOf5
 v5:=Tryz.zeroValue5
 infoByte:=by kernel_rfl
 cellsByte:=by kernel_rfl
 sizeByte:=by kernel_rfl
 neB5:=by decide }
end Go.Proofs
namespace Go.Eng
open Go.Proofs Go.RowKit Go.Shelf
theorem writes:ZQp Tryz.prog 130 176 5:=fun B b bs s w h hl hB=>Any.Builder_WriteString { Tryz.lays105 with } Tryz.Builder_Extra_105 B b bs s w h hl hB
theorem tells:Tells Tryz.prog 131 176 5:=fun B b l w h hB=>Any.Builder_String_any { Tryz.lays105 with } Tryz.Builder_Extra_105 B b l w h hB
end Go.Eng
namespace Go.Eng
open Go.Proofs Go.RowKit
theorem Zqt (l:List UInt8) (c:Nat):Lib.repeatL l c=(List.replicate c l).flatten:=by
 induction c with
 | zero=>rfl
 | succ c ih=>simp [Lib.repeatL,List.replicate_succ,ih]
theorem ZHx {b:World} {a:Zb} (hv:VIn a b) {f:List Value} {s:List UInt8} (k:Rep.rel Zib a f s) {g:List Value} {c:Int} (l:Rep.rel (Zd .i64) a g c) {z:List UInt8} (hm:ZHh s c=some z) :
  Ret Tryz.prog 129 #[Zib.val f,(Zd .i64).val g] b a (fun y v'=>∃ h,y=Zib.val h∧Zib.rel v' h z):=by
 obtain ⟨rfl,hs⟩:=k;obtain ⟨rfl,hc⟩:=l;unfold ZHh at hm;split at hm
 ·rename_i hh
  cases hm
  obtain ⟨C,rfl⟩:=Int.eq_ofNat_of_zero_le hh.1;have hc:=Zeb.1 hc;have d:=hh.2;rw [Int.toNat_natCast] at d;have:=Any.strings_Repeat Tryz.lays105 Tryz.Builder_Extra_105 (Zy s) C b (by omega) (by rw [Zad];exact d);refine Calls.mono this fun e w' ⟨i,j⟩=>?_;have m:(⟨(Lib.repeatL (Zy s).data.toList C).toArray⟩:ByteArray)=Zy (List.replicate C s).flatten:=by
   rw [Zqt];rfl
  rw [m] at i;exact ⟨_,a,i,j,VStep.ext hv j,[.string (Zy (List.replicate C s).flatten)],rfl,rfl,by simp only [Int.toNat_natCast];rw [List.length_flatten];simp;unfold maxLen;rw [Nat.mul_comm] at d;omega⟩
 ·cases hm
theorem text_w {e:World} {c:Zb} (hv:VIn c e) {c0:List Value} {a:Nat} (p0:Rep.rel Zx c c0 a) {z:(List UInt8)} (H:Z5i a=some z):Ret Tryz.prog 82 #[Zx.val c0] e c (fun y v'=>∃ r0,y=Zib.val r0∧Zib.rel v' r0 z):=by
 obtain ⟨q1,n2,k3,rfl⟩:=Zqa p0;refine ZWb (K:=49) (args:=[.slice q1 n2 k3]) hv Tryz.func82 rfl rfl zl fun f S=>?_;unfold Z5i at H;refine sr (mw S rfl fun f S=>oe (sr ?_));have S:=S.nilLoc 9 1;refine ov S rfl (Z6c S (y:=.slice (mkA none) 0 0) rfl) fun f S=>oe (Zm fun _ ar=>?_);obtain ⟨au,av,aw⟩:=ZG H;refine ZBa (fun f w=>∃ o F s G U I,o=au∧Zb.le c I∧St 49 e c [(3,.slice (mkA F) s G)] [Loc.own F 9 1 s G U] I f w∧Rep.rels Zib I U o∧s=o.length) (fun _ ax=>?_) ?_
 ·have H:=av;refine wp_block ?_;obtain ⟨bs,ay,az⟩:=ZG H;refine ZTb ay (fun aA f w=>∃ J g L M N p h q k t,(J,g)=aA∧Zb.le c t∧St 49 e c [(0,.slice L M N),(3,.slice (mkA p) h q)] [Loc.own p 9 1 h q k] t f w∧Rep.rel Zx t [.slice L M N] J∧Rep.rels Zib t k g∧h=g.length) ⟨_,_,_,_,_,none,0,0,[],_,rfl,(leR _),(S.fr' rfl),p0,Z7c,rfl⟩ ?_;rintro _ f w st ⟨J,g,L,M,N,p,h,q,k,t,hq,ac,S,ad,d,ae⟩ H bt aB aC;subst hq;refine Zm fun _ aD=>sr (mv S rfl fun f S=>ov S rfl (Zka S (ZK ad) rfl rfl ZC) fun f S=>ov S rfl (Zg S rfl rfl Z5c) fun f S=>oe ?_);rcases ZM (decide ((0:Int)<(((Zc 18446744073709551616 J)).length:Int))) with u | u
  ·have H:=ZL H u;refine ZX S rfl u (wp_skip (Zh (aD _ _ (wp_block (Zm fun _ aE=>bO H fun O aF H=>Zv (mv S rfl fun f S=>opc S rfl (Zaa S [.slice L M N,.int .u64 10000000000000000000] ZFs rfl rfl) (ZGp S.vin ad (show Rep.rel (Zd .u64) _ [.int .u64 10000000000000000000] (10000000000000000000:Int) from (ZD (by decide))) aF) ?_))))));rintro _ bu f w af ⟨bv,bw,rfl,m,aG⟩ S;have d:=Z0 af d;obtain ⟨aH,aI,aJ,rfl⟩:=Zqa m;obtain ⟨rfl,aK⟩:=aG;refine mv S rfl fun f S=>ov S rfl (ZFa S rfl rfl) fun f S=>ov S rfl (ZFa S rfl rfl) fun f S=>mw S rfl fun f S=>mw S rfl fun f S=>Zs (Zh (aE _ _ (Zm fun _ aL=>bO H fun bx aM H=>Zv (mv S rfl fun f S=>opc S rfl (Zaa S [.int .u64 (O.2)] k_en128 rfl rfl) (ZUv S.vin (show Rep.rel (Zd .u64) _ [.int .u64 (O.2)] O.2 from (ZD aK)) aM) ?_))));rintro _ aN f w V ⟨bz,rfl,aO⟩ S;have d:=Z0 V d;obtain ⟨rfl,aP⟩:=aO;refine mw S rfl fun f S=>Zs (Zh (aL _ _ (Zm fun _ aQ=>sr (mv S rfl fun f S=>?_))));have m:=Zda V m;refine ov S rfl (Zka S (ZK m) rfl rfl ZC) fun f S=>ov S rfl (Zg S rfl rfl Z5c) fun f S=>oe ?_;obtain ⟨aR,aS,aT⟩:=ZG H;refine ZBa (fun f w=>∃ b P,b=aR∧Zb.le aN P∧St 49 e c [(3,.slice (mkA p) h q),(4,.slice aH aI aJ),(6,.string (Zy b))] [Loc.own p 9 1 h q k] P f w∧b.length≤maxLen) (fun _ ag=>?_) ?_
   ·have H:=aS;rcases ZM (decide ((0:Int)<(((Zc 18446744073709551616 O.1)).length:Int))) with v | v
    ·have H:=ZL H v;refine ZX S rfl v (bO H fun W ah H=>bO H fun bA aU H=>bO H fun bB ai H=>Zv (mv S rfl fun f S=>ov S rfl (ZNq S rfl rfl Tryz.underlying9) fun f S=>ov S rfl (Zg S rfl rfl (ZIa ah)) fun f S=>opc S rfl (Zaa S [.string (Zy (([48]:List UInt8))),.int .i64 W] k_en129 rfl rfl) (ZHx S.vin (show Rep.rel Zib _ [.string (Zy (([48]:List UInt8)))] (([48]:List UInt8)) from (ZIi zl)) (show Rep.rel (Zd .i64) _ [.int .i64 W] W from (ZD (ZCa ah).2)) aU) ?_));rintro _ bC f w aj ⟨bD,rfl,aV⟩ S;have d:=Z0 aj d;obtain ⟨rfl,bE⟩:=aV;refine mv S rfl fun f S=>ov S rfl (ZOl S rfl rfl (ZWq ai)) fun f S=>mw S rfl fun f S=>Zs ?_;obtain rfl:=Zp H;refine Zh (ag _ _ ⟨_,_,rfl,(leT (leR _) aj),(S.fr' rfl),(ZVl ai)⟩)
    have H:=ZN H v;refine ZR S rfl v (wp_skip ?_);obtain rfl:=Zp H;refine Zh (ag _ _ ⟨_,_,rfl,(leR _),(S.fr' rfl),aP⟩)
   rintro f w ⟨b,P,hq,X,S,aW⟩;subst hq;have H:=aT;have d:=Z0 X d;refine Zh (aQ _ _ (bO H fun bG aX H=>Zv (mv S rfl fun f S=>mv S rfl fun f S=>?_)));obtain ⟨bH,w,aY,S⟩:=Zng S (n:=1) (cs:=[.string (Zy b)]) (vals:=[(0,.string (Zy b))]) (sz:=1) rfl (by decide) (ZRo Zas (x:=.string (Zy b)) (cs:=[.string (Zy b)]) rfl rfl (by decide));have Y:Rep.rels Zib P [.string (Zy b)] [b]:=(Zrn (ZIi aW) Z7c);refine ZSb wn rfl zl (aY rfl) S fun f S=>?_;have aZ:=S;obtain ⟨ak,al,w,a0,S⟩:=Zpl (ty:=168) Zas S (i:=1) (n':=(g++[b]).length) rfl (ZDe Y rfl) (ZZk S (j:=0) rfl) (ZCl Y) (appN ae rfl) (ZFe aX) (by decide);have a1:=ZBc d Y;refine ZSb wn rfl zl (Zte aZ rfl rfl a0) S fun f S=>mv S rfl fun f S=>mw S rfl fun f S=>mw S rfl fun f S=>Zs (ZEb ?_);obtain rfl:=Zp H;have S:=S.reorder (ℓ':=[Loc.own ak 9 1 ((g++[b]).length) al ((k++[.string (Zy b)]))]) [1] rfl (by decide);have m:=Zda X m;refine aB _ rfl _ _ ⟨_,_,_,_,_,ak,(g++[b]).length,al,(k++[.string (Zy b)]),_,rfl,(leT (leT (leT ac af) V) X),(S.fr' rfl),m,a1,rfl⟩
  have H:=ZN H u;refine ZR S rfl u (wp_exit (Z2 ?_));obtain rfl:=Zp H;have hq:=aC _ rfl;subst hq;have H:=az;refine Z2 (Zjb ?_);obtain rfl:=Zp H;refine Zh (ax _ _ ⟨_,p,h,q,k,_,rfl,(leT (leR _) ac),(S.fr' rfl),d,ae⟩)
 rintro f w ⟨o,F,s,G,U,I,hq,bI,S,a2,am⟩;subst hq;have H:=aw;refine Zh (ar _ _ (Zm fun _ a3=>sr (mv S rfl fun f S=>ov S rfl (Zka S am rfl rfl Zbn) fun f S=>ov S rfl (Zg S rfl rfl ZJe) fun f S=>oe ?_)));rcases ZM (((o.length:Int))==(0:Int)) with B | B
 ·have H:=ZL H B;refine ZX S rfl B (sr (mw S rfl fun f S=>oe (wp_ret (Z9a ?_))));obtain rfl:=Zp H;refine ZMa S (ZVa rfl (ZW S rfl)) ⟨[.string (Zy (([48]:List UInt8)))],rfl,(ZIi zl)⟩
 have H:=ZN H B;refine ZR S rfl B (wp_skip (Zh (a3 _ _ (sr ?_))));obtain ⟨an,bJ,S,C⟩:=S.pubSlice (i:=0) (A:=Zib) (l:=o) (ℓ':=[]) rfl rfl am a2 rfl;refine op_newB 5 S wn rfl zl (ZEn k_zv176) fun r f w S a4=>oe (Zm fun _ a5=>Zm fun _ a6=>bO H fun bK ao H=>Zv (mv S rfl fun f S=>ov S rfl (Zka S (ZK C) rfl rfl Zbn) fun f S=>ov S rfl (Zg S rfl rfl (ZIa ao)) fun f S=>mw S rfl fun f S=>Zs (Zh (a6 _ _ ?_))));obtain ⟨a7,a8,a9⟩:=ZG H;refine ZBa (fun f w=>∃ Q R,Q=a7∧Zb.le an R∧St 49 e c [(7,.pointer (some ⟨r,0,none⟩))] [] R f w∧Bld 176 5 r e R Q w) (fun _ ba=>?_) ?_
 ·have H:=a8;refine wp_block ?_;obtain ⟨bM,bb,bc⟩:=ZG H;refine ZTb bb (fun bd f w=>∃ Z D T,(Z,D)=bd∧Zb.le an T∧St 49 e c [(3,.slice (mkA F) s G),(7,.pointer (some ⟨r,0,none⟩)),(8,.int .i64 D)] [] T f w∧Bld 176 5 r e T Z w∧inR .i64 D) ⟨_,_,_,rfl,(leR _),(S.fr' rfl),a4,(ZCa ao).2⟩ ?_;rintro _ f w st ⟨Z,D,T,hq,aa,S,ap,bP⟩ H bQ be bf;subst hq;refine Zm fun _ bg=>sr (mv S rfl fun f S=>ov S rfl (Zg S rfl rfl Zzc) fun f S=>oe ?_);rcases ZM (decide ((0:Int)≤D)) with E | E
  ·have H:=ZL H E;refine ZX S rfl E (wp_skip (Zh (bg _ _ (Zm fun _ bh=>wp_block (bO H fun bi ab H=>bO H fun bR bj H=>Zv (mv S rfl fun f S=>mv S rfl fun f S=>?_))))));have C:=Zda aa C;obtain ⟨_,bS,bT,bU,bk,bm,bn⟩:=Zqb C (Zi ab).2.1;obtain ⟨rfl,rfl⟩:=Z3w bk;obtain ⟨rfl,bV⟩:=bn;refine ov S rfl (ZQ S rfl rfl Zbn (Zi ab).1 (ltI (ZK C) (Zi ab).2.2.1)) fun f S=>ov S rfl (Zoa S rfl k_sz9 (S.view bm)) fun f S=>ZJt writes ap (Zfv bj) S wn rfl zl (Zaa S [.pointer (some ⟨r,0,none⟩),.string (Zy bi)] k_en130 rfl rfl) fun f w S bo=>Zs (ZEb (Zh (bh _ _ (bO H fun bW aq H=>Zv (mv S rfl fun f S=>ov S rfl (Zg S rfl rfl (ZIa aq)) fun f S=>mw S rfl fun f S=>Zs ?_)))));obtain rfl:=Zp H;refine be _ rfl _ _ ⟨_,_,_,rfl,aa,(S.fr' rfl),bo,(ZCa aq).2⟩
  have H:=ZN H E;refine ZR S rfl E (wp_exit (Z2 ?_));obtain rfl:=Zp H;have hq:=bf _ rfl;subst hq;have H:=bc;refine Z2 (Zjb ?_);obtain rfl:=Zp H;refine Zh (ba _ _ ⟨_,_,rfl,(leT (leR _) aa),(S.fr' rfl),ap⟩)
 rintro f w ⟨Q,R,hq,bX,S,bp⟩;subst hq;have H:=a9;refine Zh (a5 _ _ (Zm fun _ bq=>bO H fun bY br H=>Zv (op_tell tells bp S wn rfl zl (Zaa S [.pointer (some ⟨r,0,none⟩)] k_en131 rfl rfl) fun f w S=>mw S rfl fun f S=>Zs (Zh (bq _ _ (wp_ret ?_))))));obtain rfl:=Zp H;refine ZMa S (ZVa rfl (ZW S rfl)) ⟨[.string (Zy Q)],rfl,(ZIi (ZVl br))⟩
theorem text_c {c:World} {b:Zb} (hv:VIn b c) {d:List Value} {a:Nat} (f:Rep.rel Zx b d a) {z:(List UInt8)} (hm:Zdg a=some z) :
  Ret Tryz.prog 82 #[Zx.val d] c b (fun y v'=>∃ e,y=Zib.val e∧Zib.rel v' e z) :=
 text_w hv f (Zoy hm)
end Go.Eng
set_option maxRecDepth 100000
set_option maxHeartbeats 4000000
namespace Go.Eng
open Go.Proofs Go.RowKit
noncomputable def ZNm:FuncId×Con:=(82,⟨[.leaf 0],[.str],fun p=>Zdg p⟩)
theorem text_k:Zj Tryz.prog ZNm.1 ZNm.2:=fun w v vals x z hv ha hz=>by
 obtain ⟨c0,e0,p0⟩:=ha;subst e0
 exact .inl ⟨fun _ _=>by kernel_rfl,Ret.mono (text_c hv p0 hz) fun y v' _ ⟨r0,e,h0⟩=>⟨r0,e,h0⟩⟩
end Go.Eng
set_option maxRecDepth 100000
set_option maxHeartbeats 4000000
namespace Go.Eng
open Go.Proofs Go.RowKit
noncomputable def Zfh:FuncId×Con:=(38,⟨[.leaf 3],[.str],fun p=>ZSh p⟩)
theorem qtext_i (x:Rat):Zk ⟨Tryz.prog,[(39,0),(41,2),(43,3)],[ZNm],[],[],[],[],[]⟩ [] Tryz.f38 (.two .no (.two .no (.two (.two .no (.cut ⟨⟨[],[],[]⟩,[(.norm,⟨[1],[],[.s 3 (.dat .str)]⟩)]⟩ .no)) (.two (.two .no (.cut ⟨⟨[],[],[]⟩,[(.norm,⟨[],[],[.s 3 (.dat .str)]⟩)]⟩ .no)) .no)))) [.leaf 3] [.str] (x)=ZAn x:=by kernel_rfl
theorem ZEq:Zj Tryz.prog Zfh.1 Zfh.2:=Zn (C:=⟨Tryz.prog,[(39,0),(41,2),(43,3)],[ZNm],[],[],[],[],[]⟩) ⟨text_k,trivial⟩ trivial trivial trivial (inl:=[]) trivial (ann:=.two .no (.two .no (.two (.two .no (.cut ⟨⟨[],[],[]⟩,[(.norm,⟨[1],[],[.s 3 (.dat .str)]⟩)]⟩ .no)) (.two (.two .no (.cut ⟨⟨[],[],[]⟩,[(.norm,⟨[],[],[.s 3 (.dat .str)]⟩)]⟩ .no)) .no)))) Tryz.func38 (fun _ _=>by kernel_rfl) rfl fun v vals x z ha hz=>(qtext_i x).trans (Zaw hz)
noncomputable def Zhp (x:Rat):Option ((List UInt8)) :=
 bnd (ZBh x.num.natAbs) fun b =>
 bnd (ifb (decide (x.num<0))
 (bnd (Zsc x) fun d =>
 some (!(d)))
 (some false))
 (fun (e:Bool) =>
 (bnd (ifb (e)
 (bnd (Zwb ((([45]:List UInt8))++b)) fun j =>
 some (((([45]:List UInt8))++b)))
 (some b))
 (fun (a:(List UInt8)) =>
 (bnd (ZPb x) fun f =>
 bnd (ZVb ([(1:Int)])) fun g =>
 bnd (Zqd f g) fun h =>
 bnd (ifb (decide ((0:Int)<h))
 (bnd (Zwb (a++(([47]:List UInt8)))) fun k =>
 bnd (ZBh x.den) fun c =>
 bnd (Zwb (((a++(([47]:List UInt8))))++c)) fun l =>
 some ((((a++(([47]:List UInt8))))++c)))
 (some a))
 (fun (i:(List UInt8)) =>
 (some i))))))
end Go.Eng
set_option maxRecDepth 100000
set_option maxHeartbeats 4000000
namespace Go.Eng
open Go.Proofs Go.RowKit
noncomputable def ZJm:FuncId×Con:=(153,⟨[.leaf 1],[.str],fun p=>ZBh p⟩)
theorem ZLv (a:Nat):Zk ⟨Tryz.prog,[(91,1),(93,4)],[Z3h],[],[],[],[],[]⟩ [] Tryz.f153 (.two .no (.two .no (.two (.cut ⟨⟨[],[],[]⟩,[(.norm,⟨[],[],[.s 3 (.dat .str)]⟩)]⟩ (.two (.cut ⟨⟨[],[],[.s 0 (.dat (.leaf 1)),.s 3 (.dat .str)]⟩,[(.exit 0,⟨[],[],[.s 3 (.dat .str)]⟩)]⟩ (.two (.two .no (.two (.two .no (.two (.two .no (.cut ⟨⟨[],[],[]⟩,[(.norm,⟨[4],[],[.s 3 (.dat .str)]⟩)]⟩ (.two (.cut ⟨⟨[4],[],[.s 3 (.dat .str),.s 5 (.dat (.int .u32)),.s 6 (.dat (.int .i64))]⟩,[(.exit 2,⟨[4],[],[.s 3 (.dat .str)]⟩)]⟩ (.two (.two (.two (.cut ⟨⟨[],[],[]⟩,[(.norm,⟨[3,4,5,6],[],[.s 25 (.dat .bool)]⟩)]⟩ .no) .no) .no) .no)) .no))) .no)) .no)) .no)) .no)) .no))) [.leaf 1] [.str] (a)=ZAl a:=by kernel_rfl
theorem Zmw:Zj Tryz.prog ZJm.1 ZJm.2:=Zn (C:=⟨Tryz.prog,[(91,1),(93,4)],[Z3h],[],[],[],[],[]⟩) ⟨ZAr,trivial⟩ trivial trivial trivial (inl:=[]) trivial (ann:=.two .no (.two .no (.two (.cut ⟨⟨[],[],[]⟩,[(.norm,⟨[],[],[.s 3 (.dat .str)]⟩)]⟩ (.two (.cut ⟨⟨[],[],[.s 0 (.dat (.leaf 1)),.s 3 (.dat .str)]⟩,[(.exit 0,⟨[],[],[.s 3 (.dat .str)]⟩)]⟩ (.two (.two .no (.two (.two .no (.two (.two .no (.cut ⟨⟨[],[],[]⟩,[(.norm,⟨[4],[],[.s 3 (.dat .str)]⟩)]⟩ (.two (.cut ⟨⟨[4],[],[.s 3 (.dat .str),.s 5 (.dat (.int .u32)),.s 6 (.dat (.int .i64))]⟩,[(.exit 2,⟨[4],[],[.s 3 (.dat .str)]⟩)]⟩ (.two (.two (.two (.cut ⟨⟨[],[],[]⟩,[(.norm,⟨[3,4,5,6],[],[.s 25 (.dat .bool)]⟩)]⟩ .no) .no) .no) .no)) .no))) .no)) .no)) .no)) .no)) .no))) Tryz.func153 (fun _ _=>by kernel_rfl) rfl fun v vals x z ha hz=>(ZLv x).trans (ZBw hz)
end Go.Eng
set_option maxRecDepth 100000
set_option maxHeartbeats 4000000
namespace Go.Eng
open Go.Proofs Go.RowKit
noncomputable def ZKf:FuncId×Con:=(154,⟨[.leaf 4],[.bool],fun p=>Zsc p⟩)
theorem rzero_i (x:Rat):Zk ⟨Tryz.prog,[(91,1),(93,4)],[],[],[],[],[],[]⟩ [] Tryz.f154 .no [.leaf 4] [.bool] (x)=Zso x:=by kernel_rfl
theorem ZXo:Zj Tryz.prog ZKf.1 ZKf.2:=Zn (C:=⟨Tryz.prog,[(91,1),(93,4)],[],[],[],[],[],[]⟩) trivial trivial trivial trivial (inl:=[]) trivial (ann:=.no) Tryz.func154 (fun _ _=>by kernel_rfl) rfl fun v vals x z ha hz=>(rzero_i x).trans (Zay hz)
end Go.Eng
set_option maxRecDepth 100000
set_option maxHeartbeats 4000000
namespace Go.Eng
open Go.Proofs Go.RowKit
noncomputable def ZWc:FuncId×Con:=(156,⟨[.leaf 4],[.leaf 1],fun p=>ZPb p⟩)
theorem Zvv (x:Rat):Zk ⟨Tryz.prog,[(91,1),(93,4)],[],[],[],[],[],[]⟩ [] Tryz.f156 .no [.leaf 4] [.leaf 1] (x)=ZJn x:=by kernel_rfl
theorem Zdj:Zj Tryz.prog ZWc.1 ZWc.2:=Zn (C:=⟨Tryz.prog,[(91,1),(93,4)],[],[],[],[],[],[]⟩) trivial trivial trivial trivial (inl:=[]) trivial (ann:=.no) Tryz.func156 (fun _ _=>by kernel_rfl) rfl fun v vals x z ha hz=>(Zvv x).trans (Z3x hz)
end Go.Eng
