import Derived.Test.YtiikhhemgplocaaC0efJM5
import Derived.Test.YtiikhhemgplocaaRows
import Derived.Test.YtiikhhemgplocaaC0efWkPowerAdds
import Derived.Test.YtiikhhemgplocaaC0efYA
import Derived.WalkKit
import Derived.ProofKit
import Derived.OpenShut
import Derived.ShutString
import Derived.ChangeOld
import Derived.Below
import Derived.SizedLaws
import Derived.Test.YtiikhhemgplocaaC0efY
namespace Go.Proofs.Ytiikhhemgplocaa.powerAdds
open Go.ChangeShapes Go.WideShapes Go.ChangeAt Go.RowKit
open Go.ChangeMaps (open_string shut_string)
set_option linter.unusedVariables false
theorem own:ownKnob Try.prog.godebug=none:=by kernel_rfl
set_option maxRecDepth 100000 in
theorem lifted (os:Os) (started:os.Started) (H:Type) (enc:TypeId×Value→H) :
    ReturnsInHanded {} Try.checked os 6 .any (Rows.powerAddsSpec.pre6 enc Try.prog Try.f6 Rows.powerAddsRow.domain false) (Rows.powerAddsSpec.post enc Try.prog Try.f6 false true false false):=by
  refine returnsInHanded_of_change_sized (C:=Try.checked) own started (by kernel_rfl) Try.func6
    (ChangeSpec.witness6 (enc:=enc) (C:=Try.checked) false ⟨#[],#[.agg #[.int .i16 0, .int .i16 0, .int .i16 0, .int .i16 0, .int .u8 0, .int .u8 0]],[]⟩ 8 (by kernel_rfl) (by kernel_rfl) (by kernel_rfl) (by kernel_rfl)) ?_
  intro W base args ds gs before hval0 hW hcnd hsz0 _
  have hsz:(DataW.weightsEach Try.prog (Try.f6.params.toList ++ Rows.powerAddsSpec.plain.varTypes Try.prog) (ds ++ gs)).all (· ≤ reachBytes)=true:=hsz0
  have hval : ∀ (j:Nat) t v,Try.f6.params[j]?=some t→args[j]?=some v→Value.okWide Try.prog W .any base t v:=hval0
  have hW':=hW
  obtain ⟨p,q,hA0,hV,rfl,hfz,hnd⟩:=hW
  have hA:DataW.TrodAll enc Try.prog W 0 (fun _=>true) true Try.f6.params.toList args.toList ds p:=hA0
  rw [Try.params6] at hA hval hsz
  obtain ⟨v0,vs0,d0,ds0,p0,q0,hargs,rfl,rfl,h0,r0⟩:=trodAll_cons hA
  obtain ⟨rfl,rfl,rfl⟩:=trodAll_nil r0
  obtain rfl:args = #[v0]:=by cases args;simp_all
  obtain ⟨rfl,rfl⟩:=trodVars_none hV
  obtain ⟨a,p,b,q,n,m,rfl,rfl,rfl,wa,wp,wb,wq,wn,wm⟩:=open_adds Try.underlying62 (by kernel_rfl) rfl rfl rfl rfl Try.underlying50 Try.underlying50 Try.underlying49 (by kernel_rfl) (by kernel_rfl) (by kernel_rfl) Try.underlying5 Try.underlying5 (by kernel_rfl) (by kernel_rfl) (hval 0 62 v0 rfl rfl) h0
  clear hA0 hval0 hsz0 hsz
  refine (F.chattellaw13_PowerAdds.walk a p b q n m W wa wp wb wq wn wm).mono fun e W' ⟨he,bel⟩=>?_
  subst he
  exact ⟨_,rfl,_,_,_,[],_,[],hW',trodAll_mk1 (shut_bool Try.underlying4 _),(trodAll_cons_mk (shut_adds Try.underlying62 (by kernel_rfl) rfl rfl rfl rfl Try.underlying50 Try.underlying50 Try.underlying49 (by kernel_rfl) (by kernel_rfl) (by kernel_rfl) Try.underlying5 Try.underlying5 (by kernel_rfl) (by kernel_rfl) wa wp wb wq wn wm) trodAll_mk0),rfl,bel.frame _,fun h=>by cases h⟩
theorem over:Rows.powerAddsRow.holds Try.pinned (OpenSpec.ofChange Rows.powerAddsSpec) :=
  OpenClaim.holds_of_wide 6 Try.f6 rfl rfl rfl rfl rfl rfl rfl ⟨rfl,rfl,rfl,rfl,rfl⟩ rfl rfl rfl rfl rfl (by kernel_rfl) Try.func6 (by kernel_rfl)
    (of_decide_eq_true (by kernel_rfl)) (by unfold Func.isWrapper;first|(rw [if_pos (by decide +kernel)];kernel_rfl)|(rw [if_neg (by decide +kernel)];exact ⟨rfl,rfl⟩))
    (fun os started H enc _=>lifted os started H enc)
theorem proved:Rows.PowerAddsSaid:=over
#print axioms proved
end Go.Proofs.Ytiikhhemgplocaa.powerAdds
namespace Go.Proofs.Ytiikhhemgplocaa
theorem powerAdds_holds:Rows.PowerAddsSaid:=powerAdds.proved
end Go.Proofs.Ytiikhhemgplocaa
