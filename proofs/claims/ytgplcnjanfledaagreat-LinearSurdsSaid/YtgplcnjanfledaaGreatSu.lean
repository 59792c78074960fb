/- LinearSurds: for every input the call returns true, and each argument reads afterwards as it read before. Conditions: none (the given statement). -/
import Derived.Test.YtgplcnjanfledaaGreatRows
import Derived.WalkKit
import Derived.ProofKit
import Derived.Test.YtgplcnjanfledaaGreatSuH
namespace Go.Proofs.YtgplcnjanfledaaGreat
open Go.ChangeShapes Go.WideShapes Go.ChangeAt Go.RowKit Go.Eng
theorem surds.own:ownKnob Tryz.prog.godebug=none:=by kernel_rfl
theorem surds.laidOut:laidOutB Tryz.prog=true:=by kernel_rfl
theorem surds.rq:kh Tryz.prog 63 (Zj (Zd .i64) (Zd .i64)):=Xi Tryz.underlying63 (Qu Tryz.underlying2) (Qu Tryz.underlying2) rfl (by kernel_rfl) rfl (by kernel_rfl) (by kernel_rfl)
theorem surds.ru:kh Tryz.prog 65 (Zj (Zj (Zd .i64) (Zd .i64)) (Zj (Zj (Zd .i64) (Zd .i64)) (Zj (Zj (Zd .i64) (Zd .i64)) (Zj (Zd .i64) (Zd .i64))))):=ZzB Tryz.underlying65 surds.rq surds.rq surds.rq surds.rq rfl (by kernel_rfl) rfl (by kernel_rfl) rfl (by kernel_rfl) rfl (by kernel_rfl) (by kernel_rfl)
theorem surds.rl:kh Tryz.prog 23 (Zy (Zj (Zj (Zd .i64) (Zd .i64)) (Zj (Zj (Zd .i64) (Zd .i64)) (Zj (Zj (Zd .i64) (Zd .i64)) (Zj (Zd .i64) (Zd .i64)))))):=Sv Tryz.underlying23 surds.ru (by kernel_rfl) (by decide)
theorem surds.rm:kh Tryz.prog 22 (Zy (Zy (Zj (Zj (Zd .i64) (Zd .i64)) (Zj (Zj (Zd .i64) (Zd .i64)) (Zj (Zj (Zd .i64) (Zd .i64)) (Zj (Zd .i64) (Zd .i64))))))):=Sv Tryz.underlying22 surds.rl (by kernel_rfl) (by decide)
set_option maxRecDepth 100000 in
theorem VR (os:Os) (started:os.Started) (H:Type) (enc:TypeId×Value→H) :
    ReturnsInHanded {} Tryz.checked os 3 .any (Rows.linearSurdsSpec.pre6 enc Tryz.prog Tryz.f3 Rows.linearSurdsRow.domain false) (Rows.linearSurdsSpec.post enc Tryz.prog Tryz.f3 false true false false):=by
  refine returnsInHanded_of_change (C:=Tryz.checked) surds.own started (by kernel_rfl) Tryz.func3
    (ChangeSpec.witness6 (enc:=enc) (C:=Tryz.checked) false ⟨#[],#[.slice none 0 0,.slice none 0 0,.slice none 0 0],[]⟩ 8 (by kernel_rfl) (by kernel_rfl) (by kernel_rfl) (by kernel_rfl)) ?_
  intro W base args ds gs before hval0 hW hcnd _
  have hval:∀ (j:Nat) t v,Tryz.f3.params[j]? = some t→args[j]? = some v→Value.okWide Tryz.prog W .any base t v:=hval0
  have hW':=hW
  obtain⟨p,q,hA0,hV,rfl,hfz,hnd⟩:=hW
  have hA:DataW.TrodAll enc Tryz.prog W 0 (λ_=>true) true Tryz.f3.params.toList args.toList ds p:=hA0
  rw[Tryz.params3] at hA hval
  obtain⟨v0,vs0,d0,ds0,p0,q0,hargs,rfl,rfl,h0,r0⟩:=trodAll_cons hA
  obtain⟨v1,vs1,d1,ds1,p1,q1,rfl,rfl,rfl,h1,r1⟩:=trodAll_cons r0
  obtain⟨v2,vs2,d2,ds2,p2,q2,rfl,rfl,rfl,h2,r2⟩:=trodAll_cons r1
  obtain⟨rfl,rfl,rfl⟩:=trodAll_nil r2
  obtain⟨rfl,rfl⟩:=trodVars_none hV
  obtain rfl:args = #[v0,v1,v2]:=by cases args;simp_all
  obtain⟨f0,h0⟩:=h0
  obtain⟨f1,h1⟩:=h1
  obtain⟨f2,h2⟩:=h2
  obtain⟨x0,k0⟩:=surds.rm _ _ _ _ _ _ h0
  obtain⟨x1,k1⟩:=surds.rl _ _ _ _ _ _ h1
  obtain⟨x2,k2⟩:=surds.rl _ _ _ _ _ _ h2
  have e0:=M4 (A:=(Zy (Zy (Zj (Zj (Zd .i64) (Zd .i64)) (Zj (Zj (Zd .i64) (Zd .i64)) (Zj (Zj (Zd .i64) (Zd .i64)) (Zj (Zd .i64) (Zd .i64)))))))) rfl Tryz.underlying22 (hval 0 22 v0 rfl rfl)
  have e1:=M4 (A:=(Zy (Zj (Zj (Zd .i64) (Zd .i64)) (Zj (Zj (Zd .i64) (Zd .i64)) (Zj (Zj (Zd .i64) (Zd .i64)) (Zj (Zd .i64) (Zd .i64))))))) rfl Tryz.underlying23 (hval 1 23 v1 rfl rfl)
  have e2:=M4 (A:=(Zy (Zj (Zj (Zd .i64) (Zd .i64)) (Zj (Zj (Zd .i64) (Zd .i64)) (Zj (Zj (Zd .i64) (Zd .i64)) (Zj (Zd .i64) (Zd .i64))))))) rfl Tryz.underlying23 (hval 2 23 v2 rfl rfl)
  have hm:=VO x0 x1 x2
  have hw:=Wj (Y0 W) k0 k1 k2 hm
  rw[← e0,← e1,← e2] at hw
  refine Calls.mono hw λe W' ⟨r,v',he,hx,_,hr⟩=>?_
  obtain⟨r0,rfl,hb⟩:=hr
  obtain rfl:r0=[.bool true]:=hb
  exact⟨_,he,Xy surds.laidOut (by decide +kernel) Tryz.underlying4 rfl rfl rfl rfl rfl hW' hx⟩
theorem surds_holds:Rows.LinearSurdsSaid :=
  OpenClaim.holds_of_wide 3 Tryz.f3 rfl rfl rfl rfl rfl rfl rfl ⟨rfl,rfl,rfl,rfl,rfl⟩ rfl rfl rfl rfl rfl (by kernel_rfl) Tryz.func3 (by kernel_rfl)
    (of_decide_eq_true (by kernel_rfl)) (by unfold Func.isWrapper;first | (rw[if_pos (by decide +kernel)];kernel_rfl) | (rw[if_neg (by decide +kernel)];exact⟨rfl,rfl⟩))
    (λos started H enc _=>VR os started H enc)
end Go.Proofs.YtgplcnjanfledaaGreat
