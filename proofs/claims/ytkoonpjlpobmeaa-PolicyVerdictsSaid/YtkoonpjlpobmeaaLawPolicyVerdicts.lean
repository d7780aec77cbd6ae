-- written by this session's own program (wip/fprint.py), which widens the kit's print by floats
/- PolicyVerdicts: for every input the law returns true, each argument reads behind the call as it read before; no condition. -/
import Derived.Test.YtkoonpjlpobmeaaRows
import Derived.Test.YtkoonpjlpobmeaaPr15
import Derived.Test.YtkoonpjlpobmeaaPurePolicyVerdicts
import Derived.Test.YtkoonpjlpobmeaaWOpen
import Derived.WalkKit
import Derived.ProofKit
import Derived.OpenShut
import Derived.ShutString
import Derived.ChangeOld
import Derived.Below
import Derived.SizedLaws
import Derived.Laws.Cover2
namespace Go.Proofs.Ytkoonpjlpobmeaa.policyVerdicts
open Go.ChangeShapes Go.WideShapes Go.ChangeAt Go.RowKit Go.Proofs.Ytkoonpjlpobmeaa.Pr Go.Proofs.YtkoonpjlpobmeaaW.PrintWords
open Go.ChangeMaps (open_string shut_string)
set_option linter.unusedVariables false
theorem own : ownKnob Try.prog.godebug = none := by kernel_rfl
theorem laidOut : laidOutB Try.prog = true := by kernel_rfl
set_option maxRecDepth 100000 in
theorem lifted (os : Os) (started : os.Started) (H : Type) (enc : TypeId × Value → H) :
    ReturnsInHanded {} Try.checked os 5 .any (Rows.policyVerdictsSpec.pre6 enc Try.prog Try.f5 Rows.policyVerdictsRow.domain false) (Rows.policyVerdictsSpec.post enc Try.prog Try.f5 false true false false) := by
  refine returnsInHanded_of_change_sized (C := Try.checked) own started (by kernel_rfl) Try.func5
    (ChangeSpec.witness6 (enc := enc) (C := Try.checked) false ⟨#[], #[.agg #[.int .i64 0, .int .i64 0, .int .i64 0, .int .i64 0, .int .i64 0, .int .i64 0], .agg #[.int .i64 0, .int .i64 0], .int .i64 0], []⟩ 8 (by kernel_rfl) (by kernel_rfl) (by kernel_rfl) (by kernel_rfl)) ?_
  intro W base args ds gs before hval0 hW hcnd hsz0 _
  have hsz : (DataW.weightsEach Try.prog (Try.f5.params.toList ++ Rows.policyVerdictsSpec.plain.varTypes Try.prog) (ds ++ gs)).all (· ≤ reachBytes) = true := hsz0
  have hval : ∀ (j : Nat) t v, Try.f5.params[j]? = some t → args[j]? = some v → Value.okWide Try.prog W .any base t v := hval0
  have hW' := hW
  obtain ⟨p, q, hA0, hV, rfl, hfz, hnd⟩ := hW
  have hA : DataW.TrodAll enc Try.prog W 0 (fun _ => true) true Try.f5.params.toList args.toList ds p := hA0
  rw [Try.params5] at hA hval hsz
  obtain ⟨v0, vs0, d0, ds0, p0, q0, hargs, rfl, rfl, h0, r0⟩ := trodAll_cons hA
  obtain ⟨v1, vs1, d1, ds1, p1, q1, rfl, rfl, rfl, h1, r1⟩ := trodAll_cons r0
  obtain ⟨v2, vs2, d2, ds2, p2, q2, rfl, rfl, rfl, h2, r2⟩ := trodAll_cons r1
  obtain ⟨rfl, rfl, rfl⟩ := trodAll_nil r2
  obtain rfl : args = #[v0, v1, v2] := by cases args; simp_all
  obtain ⟨rfl, rfl⟩ := trodVars_none hV
  obtain ⟨cs0, rfl, _⟩ := okWide_struct Try.underlying30 (hval 0 30 v0 rfl rfl)
  have k0 := h0
  have lt0 : ∀ x ∈ p0, x.block < W.heap.size := by obtain ⟨m, hm⟩ := k0; exact DataW.trod_lt m _ _ _ hm
  obtain ⟨x0, K0, hw0⟩ := Opens.arg (Opens.struct Try.underlying30 (@OpensF.cons _ _ _ _ _ _ _ _ _ _ (Opens.int Try.underlying3) (by rfl) (by kernel_rfl) (@OpensF.cons _ _ _ _ _ _ _ _ _ _ (Opens.int Try.underlying3) (by rfl) (by kernel_rfl) (@OpensF.cons _ _ _ _ _ _ _ _ _ _ (Opens.int Try.underlying3) (by rfl) (by kernel_rfl) (@OpensF.cons _ _ _ _ _ _ _ _ _ _ (Opens.int Try.underlying3) (by rfl) (by kernel_rfl) (@OpensF.cons _ _ _ _ _ _ _ _ _ _ (Opens.int Try.underlying3) (by rfl) (by kernel_rfl) (@OpensF.one _ _ _ _ _ _ (Opens.int Try.underlying3) (by rfl) (by kernel_rfl))))))) (by kernel_rfl) (fun x : S30 => (x.f0, x.f1, x.f2, x.f3, x.f4, x.f5)) (fun p => (⟨p.1, p.2.1, p.2.2.1, p.2.2.2.1, p.2.2.2.2.1, p.2.2.2.2.2⟩ : S30)) (fun _ => rfl)) h0 hsz (j := 0) rfl rfl
  obtain he0 := k30_open (show k30.K W x0 cs0.toList from K0)
  obtain rfl : cs0 = #[.int .i64 x0.f0, .int .i64 x0.f1, .int .i64 x0.f2, .int .i64 x0.f3, .int .i64 x0.f4, .int .i64 x0.f5] := by have h_ := congrArg List.toArray he0; cases cs0; exact h_
  obtain ⟨cs1, rfl, _⟩ := okWide_struct Try.underlying23 (hval 1 23 v1 rfl rfl)
  have k1 := h1
  have lt1 : ∀ x ∈ p1, x.block < W.heap.size := by obtain ⟨m, hm⟩ := k1; exact DataW.trod_lt m _ _ _ hm
  obtain ⟨x1, K1, hw1⟩ := Opens.arg (Opens.struct Try.underlying23 (@OpensF.cons _ _ _ _ _ _ _ _ _ _ (Opens.int Try.underlying3) (by rfl) (by kernel_rfl) (@OpensF.one _ _ _ _ _ _ (Opens.int Try.underlying3) (by rfl) (by kernel_rfl))) (by kernel_rfl) (fun x : S23 => (x.f0, x.f1)) (fun p => (⟨p.1, p.2⟩ : S23)) (fun _ => rfl)) h1 hsz (j := 1) rfl rfl
  obtain he1 := k23_open (show k23.K W x1 cs1.toList from K1)
  obtain rfl : cs1 = #[.int .i64 x1.f0, .int .i64 x1.f1] := by have h_ := congrArg List.toArray he1; cases cs1; exact h_
  obtain ⟨a2, rfl, rfl, rfl, w2⟩ := open_int Try.underlying3 (hval 2 3 v2 rfl rfl) h2
  clear hA0 hval0 hsz0 hsz
  obtain ⟨k, h⟩ := Pure.PolicyVerdicts x0.f0 x0.f1 x0.f2 x0.f3 x0.f4 x0.f5 x1.f0 x1.f1 a2 hw0.1 hw0.2.1 hw0.2.2.1 hw0.2.2.2.1 hw0.2.2.2.2.1 hw0.2.2.2.2.2 hw1.1 hw1.2 w2
  have hcall : Calls Try.prog 5 #[.agg #[.int .i64 x0.f0, .int .i64 x0.f1, .int .i64 x0.f2, .int .i64 x0.f3, .int .i64 x0.f4, .int .i64 x0.f5], .agg #[.int .i64 x1.f0, .int .i64 x1.f1], .int .i64 a2] W fun e w' => e = .returned (.bool true) ∧ Below W.heap.size W w' := (steelyardlaw06_PolicyVerdicts.calls k x0.f0 x0.f1 x0.f2 x0.f3 x0.f4 x0.f5 x1.f0 x1.f1 a2 true W h).mono fun e w' he => ⟨he.1, he.2⟩
  refine hcall.mono fun e W' ⟨he, bel⟩ => ?_
  subst he
  exact ⟨_, rfl, _, _, _, [], _, [], hW', trodAll_mk1 (shut_bool Try.underlying4 _), (trodAll_cons_mk (Below.trod laidOut (by kernel_rfl) (of_decide_eq_true (by kernel_rfl)) k0 bel lt0) (trodAll_cons_mk (Below.trod laidOut (by kernel_rfl) (of_decide_eq_true (by kernel_rfl)) k1 bel lt1) (trodAll_cons_mk (shut_int Try.underlying3 w2) trodAll_mk0))), rfl, bel.frame _, fun h => by cases h⟩
theorem over : Rows.policyVerdictsRow.holds Try.pinned (OpenSpec.ofChange Rows.policyVerdictsSpec) :=
  OpenClaim.holds_of_wide 5 Try.f5 rfl rfl rfl rfl rfl rfl rfl ⟨rfl, rfl, rfl, rfl, rfl⟩ rfl rfl rfl rfl rfl (by kernel_rfl) Try.func5 (by kernel_rfl)
    (of_decide_eq_true (by kernel_rfl)) (by unfold Func.isWrapper; first | (rw [if_pos (by decide +kernel)]; kernel_rfl) | (rw [if_neg (by decide +kernel)]; exact ⟨rfl, rfl⟩))
    (fun os started H enc _ => lifted os started H enc)
theorem proved : Rows.PolicyVerdictsSaid := over
#print axioms proved
end Go.Proofs.Ytkoonpjlpobmeaa.policyVerdicts
namespace Go.Proofs.Ytkoonpjlpobmeaa
/-- The row, under a short name, for the claim. -/
theorem policyVerdicts_holds : Rows.PolicyVerdictsSaid := policyVerdicts.proved
end Go.Proofs.Ytkoonpjlpobmeaa
