import Derived.Test.YtkoccekiojhidaaRows
import Derived.Test.YtkoccekiojhidaaC82bWkFracMiddle
import Derived.Test.YtkoccekiojhidaaC82bPureFracMiddle
import Derived.WalkKit
import Derived.ProofKit
import Derived.OpenShut
import Derived.ShutString
import Derived.ChangeOld
import Derived.Below
import Derived.SizedLaws
import Derived.Test.YtkoccekiojhidaaC82bWSized
import Derived.Test.YtkoccekiojhidaaC82bY
namespace Go.Proofs.Ytkoccekiojhidaa.fracMiddle
open Go.ChangeShapes Go.WideShapes Go.ChangeAt Go.RowKit
open Go.ChangeMaps (open_string shut_string)
set_option linter.unusedVariables false
theorem own:ownKnob Try.prog.godebug=none:=by kernel_rfl
theorem laidOut:laidOutB Try.prog=true:=by kernel_rfl
set_option maxRecDepth 100000 in
theorem lifted (os:Os) (started:os.Started) (H:Type) (enc:TypeId×Value→H) :
    ReturnsInHanded {} Try.checked os 7 .any (Rows.fracMiddleSpec.pre6 enc Try.prog Try.f7 Rows.fracMiddleRow.domain false) (Rows.fracMiddleSpec.post enc Try.prog Try.f7 false true false false):=by
  refine returnsInHanded_of_change_sized (C:=Try.checked) own started (by kernel_rfl) Try.func7
    (ChangeSpec.witness6 (enc:=enc) (C:=Try.checked) false ⟨#[],#[.agg #[.slice none 0 0, .slice none 0 0, .bool false], .agg #[.slice none 0 0, .slice none 0 0, .bool false], .agg #[.slice none 0 0, .slice none 0 0, .bool false]],[]⟩ 8 (by kernel_rfl) (by kernel_rfl) (by kernel_rfl) (by kernel_rfl)) ?_
  intro W base args ds gs before hval0 hW hcnd hsz0 _
  have hsz:(DataW.weightsEach Try.prog (Try.f7.params.toList ++ Rows.fracMiddleSpec.plain.varTypes Try.prog) (ds ++ gs)).all (· ≤ reachBytes)=true:=hsz0
  have hval : ∀ (j:Nat) t v,Try.f7.params[j]?=some t→args[j]?=some v→Value.okWide Try.prog W .any base t v:=hval0
  have hW':=hW
  obtain ⟨p,q,hA0,hV,rfl,hfz,hnd⟩:=hW
  have hA:DataW.TrodAll enc Try.prog W 0 (fun _=>true) true Try.f7.params.toList args.toList ds p:=hA0
  rw [Try.params7] at hA hval hsz
  obtain ⟨v0,vs0,d0,ds0,p0,q0,hargs,rfl,rfl,h0,r0⟩:=trodAll_cons hA
  obtain ⟨v1,vs1,d1,ds1,p1,q1,rfl,rfl,rfl,h1,r1⟩:=trodAll_cons r0
  obtain ⟨v2,vs2,d2,ds2,p2,q2,rfl,rfl,rfl,h2,r2⟩:=trodAll_cons r1
  obtain ⟨rfl,rfl,rfl⟩:=trodAll_nil r2
  obtain rfl:args = #[v0,v1,v2]:=by cases args;simp_all
  obtain ⟨rfl,rfl⟩:=trodVars_none hV
  have k0:=h0
  have lt0 : ∀ x ∈ p0,x.block < W.heap.size:=by obtain ⟨m,hm⟩:=k0;exact DataW.trod_lt m _ _ _ hm
  obtain ⟨a0_0,len0_0,cap0_0,z0_0,a0_1,len0_1,cap0_1,z0_1,a0_2,rfl,w0_0,y0_0,w0_1,y0_1⟩:=open_ssb (j:=0) Try.underlying24 (by kernel_rfl) rfl rfl rfl Try.underlying22 Try.underlying22 Try.underlying4 Try.underlying57 (by kernel_rfl) (by kernel_rfl) (by kernel_rfl) (by kernel_rfl) (by kernel_rfl) hsz rfl rfl (hval 0 24 v0 rfl rfl) h0
  have k1:=h1
  have lt1 : ∀ x ∈ p1,x.block < W.heap.size:=by obtain ⟨m,hm⟩:=k1;exact DataW.trod_lt m _ _ _ hm
  obtain ⟨a1_0,len1_0,cap1_0,z1_0,a1_1,len1_1,cap1_1,z1_1,a1_2,rfl,w1_0,y1_0,w1_1,y1_1⟩:=open_ssb (j:=1) Try.underlying24 (by kernel_rfl) rfl rfl rfl Try.underlying22 Try.underlying22 Try.underlying4 Try.underlying57 (by kernel_rfl) (by kernel_rfl) (by kernel_rfl) (by kernel_rfl) (by kernel_rfl) hsz rfl rfl (hval 1 24 v1 rfl rfl) h1
  have k2:=h2
  have lt2 : ∀ x ∈ p2,x.block < W.heap.size:=by obtain ⟨m,hm⟩:=k2;exact DataW.trod_lt m _ _ _ hm
  obtain ⟨a2_0,len2_0,cap2_0,z2_0,a2_1,len2_1,cap2_1,z2_1,a2_2,rfl,w2_0,y2_0,w2_1,y2_1⟩:=open_ssb (j:=2) Try.underlying24 (by kernel_rfl) rfl rfl rfl Try.underlying22 Try.underlying22 Try.underlying4 Try.underlying57 (by kernel_rfl) (by kernel_rfl) (by kernel_rfl) (by kernel_rfl) (by kernel_rfl) hsz rfl rfl (hval 2 24 v2 rfl rfl) h2
  clear hA0 hval0 hsz0 hsz
  refine (F.chattellaw05_FracMiddle.walk Pure.FracMiddle a0_0 len0_0 cap0_0 z0_0 a0_1 len0_1 cap0_1 z0_1 a0_2 a1_0 len1_0 cap1_0 z1_0 a1_1 len1_1 cap1_1 z1_1 a1_2 a2_0 len2_0 cap2_0 z2_0 a2_1 len2_1 cap2_1 z2_1 a2_2 W w0_0 y0_0 w0_1 y0_1 w1_0 y1_0 w1_1 y1_1 w2_0 y2_0 w2_1 y2_1).mono fun e W' ⟨he,bel⟩=>?_
  subst he
  exact ⟨_,rfl,_,_,_,[],_,[],hW',trodAll_mk1 (shut_bool Try.underlying4 _),(trodAll_cons_mk (Below.trod laidOut (by kernel_rfl) (of_decide_eq_true (by kernel_rfl)) k0 bel lt0) (trodAll_cons_mk (Below.trod laidOut (by kernel_rfl) (of_decide_eq_true (by kernel_rfl)) k1 bel lt1) (trodAll_cons_mk (Below.trod laidOut (by kernel_rfl) (of_decide_eq_true (by kernel_rfl)) k2 bel lt2) trodAll_mk0))),rfl,bel.frame _,fun h=>by cases h⟩
theorem over:Rows.fracMiddleRow.holds Try.pinned (OpenSpec.ofChange Rows.fracMiddleSpec) :=
  OpenClaim.holds_of_wide 7 Try.f7 rfl rfl rfl rfl rfl rfl rfl ⟨rfl,rfl,rfl,rfl,rfl⟩ rfl rfl rfl rfl rfl (by kernel_rfl) Try.func7 (by kernel_rfl)
    (of_decide_eq_true (by kernel_rfl)) (by unfold Func.isWrapper;first|(rw [if_pos (by decide +kernel)];kernel_rfl)|(rw [if_neg (by decide +kernel)];exact ⟨rfl,rfl⟩))
    (fun os started H enc _=>lifted os started H enc)
theorem proved:Rows.FracMiddleSaid:=over
#print axioms proved
end Go.Proofs.Ytkoccekiojhidaa.fracMiddle
namespace Go.Proofs.Ytkoccekiojhidaa
theorem fracMiddle_holds:Rows.FracMiddleSaid:=fracMiddle.proved
end Go.Proofs.Ytkoccekiojhidaa
