/- PolicySifts: for every input the law returns true, each argument reads behind the call as it read before; no condition. -/
import Derived.Test.YtkoonpjlpobmeaaRows
import Derived.Test.YtkoonpjlpobmeaaPolicySiftsM4
import Derived.WalkKit
import Derived.ProofKit
import Derived.OpenShut
import Derived.ShutString
import Derived.ChangeOld
import Derived.Below
import Derived.SizedLaws
import Derived.Laws.Cover2
-- written by this session's own program (wip/fprint.py), which widens the kit's print by floats
namespace Go.Proofs.Ytkoonpjlpobmeaa.policySifts
open Go.ChangeShapes Go.WideShapes Go.ChangeAt Go.RowKit Go.Proofs.Ytkoonpjlpobmeaa.Pr Go.Proofs.YtkoonpjlpobmeaaW.PrintWords
open Go.ChangeMaps (open_string shut_string)
set_option linter.unusedVariables false
theorem own : ownKnob Try.prog.godebug = none := by kernel_rfl
theorem laidOut : laidOutB Try.prog = true := by kernel_rfl
set_option maxRecDepth 100000 in
set_option maxHeartbeats 1000000 in
theorem lifted (os : Os) (started : os.Started) (H : Type) (enc : TypeId × Value → H) :
    ReturnsInHanded {} Try.checked os 4 .any (Rows.policySiftsSpec.pre6 enc Try.prog Try.f4 Rows.policySiftsRow.domain false) (Rows.policySiftsSpec.post enc Try.prog Try.f4 false true false false) := by
  refine returnsInHanded_of_change_sized (C := Try.checked) own started (by kernel_rfl) Try.func4
    (ChangeSpec.witness6 (enc := enc) (C := Try.checked) false ⟨#[], #[.slice none 0 0, .agg #[.int .i64 0, .int .i64 0], .slice none 0 0, .agg #[.int .i64 0, .int .i64 0]], []⟩ 8 (by kernel_rfl) (by kernel_rfl) (by kernel_rfl) (by kernel_rfl)) ?_
  intro W base args ds gs before hval0 hW hcnd hsz0 _
  have hsz : (DataW.weightsEach Try.prog (Try.f4.params.toList ++ Rows.policySiftsSpec.plain.varTypes Try.prog) (ds ++ gs)).all (· ≤ reachBytes) = true := hsz0
  have hval : ∀ (j : Nat) t v, Try.f4.params[j]? = some t → args[j]? = some v → Value.okWide Try.prog W .any base t v := hval0
  have hW' := hW
  obtain ⟨p, q, hA0, hV, rfl, hfz, hnd⟩ := hW
  have hA : DataW.TrodAll enc Try.prog W 0 (fun _ => true) true Try.f4.params.toList args.toList ds p := hA0
  rw [Try.params4] at hA hval hsz
  obtain ⟨v0, vs0, d0, ds0, p0, q0, hargs, rfl, rfl, h0, r0⟩ := trodAll_cons hA
  obtain ⟨v1, vs1, d1, ds1, p1, q1, rfl, rfl, rfl, h1, r1⟩ := trodAll_cons r0
  obtain ⟨v2, vs2, d2, ds2, p2, q2, rfl, rfl, rfl, h2, r2⟩ := trodAll_cons r1
  obtain ⟨v3, vs3, d3, ds3, p3, q3, rfl, rfl, rfl, h3, r3⟩ := trodAll_cons r2
  obtain ⟨rfl, rfl, rfl⟩ := trodAll_nil r3
  obtain rfl : args = #[v0, v1, v2, v3] := by cases args; simp_all
  obtain ⟨rfl, rfl⟩ := trodVars_none hV
  obtain ⟨a0, len0, cap0, rfl⟩ := okWide_slice Try.underlying27 (hval 0 27 v0 rfl rfl)
  have k0 := h0
  have lt0 : ∀ x ∈ p0, x.block < W.heap.size := by obtain ⟨m, hm⟩ := k0; exact DataW.trod_lt m _ _ _ hm
  obtain ⟨l0, ⟨A0, c0, he0, hc0, hr0⟩, hw0⟩ := Opens.arg (Opens.slice (B := 8) Try.underlying27 (Opens.float Try.underlying41) (by kernel_rfl) (by kernel_rfl)) h0 hsz (j := 0) rfl rfl
  obtain ⟨rfl, rfl, rfl⟩ : a0 = A0 ∧ len0 = l0.length ∧ cap0 = c0 := by simpa [Value.cells] using he0
  obtain ⟨cs1, rfl, _⟩ := okWide_struct Try.underlying23 (hval 1 23 v1 rfl rfl)
  have k1 := h1
  have lt1 : ∀ x ∈ p1, x.block < W.heap.size := by obtain ⟨m, hm⟩ := k1; exact DataW.trod_lt m _ _ _ hm
  obtain ⟨x1, K1, hw1⟩ := Opens.arg (Opens.struct Try.underlying23 (@OpensF.cons _ _ _ _ _ _ _ _ _ _ (Opens.int Try.underlying3) (by rfl) (by kernel_rfl) (@OpensF.one _ _ _ _ _ _ (Opens.int Try.underlying3) (by rfl) (by kernel_rfl))) (by kernel_rfl) (fun x : S23 => (x.f0, x.f1)) (fun p => (⟨p.1, p.2⟩ : S23)) (fun _ => rfl)) h1 hsz (j := 1) rfl rfl
  obtain he1 := k23_open (show k23.K W x1 cs1.toList from K1)
  obtain rfl : cs1 = #[.int .i64 x1.f0, .int .i64 x1.f1] := by have h_ := congrArg List.toArray he1; cases cs1; exact h_
  obtain ⟨a2, len2, cap2, rfl⟩ := okWide_slice Try.underlying27 (hval 2 27 v2 rfl rfl)
  have k2 := h2
  have lt2 : ∀ x ∈ p2, x.block < W.heap.size := by obtain ⟨m, hm⟩ := k2; exact DataW.trod_lt m _ _ _ hm
  obtain ⟨l2, ⟨A2, c2, he2, hc2, hr2⟩, hw2⟩ := Opens.arg (Opens.slice (B := 8) Try.underlying27 (Opens.float Try.underlying41) (by kernel_rfl) (by kernel_rfl)) h2 hsz (j := 2) rfl rfl
  obtain ⟨rfl, rfl, rfl⟩ : a2 = A2 ∧ len2 = l2.length ∧ cap2 = c2 := by simpa [Value.cells] using he2
  obtain ⟨cs3, rfl, _⟩ := okWide_struct Try.underlying23 (hval 3 23 v3 rfl rfl)
  have k3 := h3
  have lt3 : ∀ x ∈ p3, x.block < W.heap.size := by obtain ⟨m, hm⟩ := k3; exact DataW.trod_lt m _ _ _ hm
  obtain ⟨x3, K3, hw3⟩ := Opens.arg (Opens.struct Try.underlying23 (@OpensF.cons _ _ _ _ _ _ _ _ _ _ (Opens.int Try.underlying3) (by rfl) (by kernel_rfl) (@OpensF.one _ _ _ _ _ _ (Opens.int Try.underlying3) (by rfl) (by kernel_rfl))) (by kernel_rfl) (fun x : S23 => (x.f0, x.f1)) (fun p => (⟨p.1, p.2⟩ : S23)) (fun _ => rfl)) h3 hsz (j := 3) rfl rfl
  obtain he3 := k23_open (show k23.K W x3 cs3.toList from K3)
  obtain rfl : cs3 = #[.int .i64 x3.f0, .int .i64 x3.f1] := by have h_ := congrArg List.toArray he3; cases cs3; exact h_
  clear hA0 hval0 hsz0 hsz
  have wl : ∀ y ∈ l0, y < 18446744073709551616 := fun y_ hy_ => Go.Proofs.YtkoonpjlpobmeaaW.FL.f64_wf (hw0.2.2 y_ hy_)
  have wm : ∀ y ∈ l2, y < 18446744073709551616 := fun y_ hy_ => Go.Proofs.YtkoonpjlpobmeaaW.FL.f64_wf (hw2.2.2 y_ hy_)
  have hcall : Calls Try.prog 4 #[.slice a0 l0.length cap0, .agg #[.int .i64 x1.f0, .int .i64 x1.f1], .slice a2 l2.length cap2, .agg #[.int .i64 x3.f0, .int .i64 x3.f1]] W fun e w' => e = .returned (.bool true) ∧ Below W.heap.size W w' :=
    sifts_law a0 a2 cap0 cap2 l0 l2 x1.f0 x1.f1 x3.f0 x3.f1 W hr0 hc0 hr2 hc2 (by have := hw0.2.1; omega) (by have := hw2.2.1; omega) wl wm
  refine hcall.mono fun e W' ⟨he, bel⟩ => ?_
  subst he
  exact ⟨_, rfl, _, _, _, [], _, [], hW', trodAll_mk1 (shut_bool Try.underlying4 _), (trodAll_cons_mk (Below.trod laidOut (by kernel_rfl) (of_decide_eq_true (by kernel_rfl)) k0 bel lt0) (trodAll_cons_mk (Below.trod laidOut (by kernel_rfl) (of_decide_eq_true (by kernel_rfl)) k1 bel lt1) (trodAll_cons_mk (Below.trod laidOut (by kernel_rfl) (of_decide_eq_true (by kernel_rfl)) k2 bel lt2) (trodAll_cons_mk (Below.trod laidOut (by kernel_rfl) (of_decide_eq_true (by kernel_rfl)) k3 bel lt3) trodAll_mk0)))), rfl, bel.frame _, fun h => by cases h⟩
theorem over : Rows.policySiftsRow.holds Try.pinned (OpenSpec.ofChange Rows.policySiftsSpec) :=
  OpenClaim.holds_of_wide 4 Try.f4 rfl rfl rfl rfl rfl rfl rfl ⟨rfl, rfl, rfl, rfl, rfl⟩ rfl rfl rfl rfl rfl (by kernel_rfl) Try.func4 (by kernel_rfl)
    (of_decide_eq_true (by kernel_rfl)) (by unfold Func.isWrapper; first | (rw [if_pos (by decide +kernel)]; kernel_rfl) | (rw [if_neg (by decide +kernel)]; exact ⟨rfl, rfl⟩))
    (fun os started H enc _ => lifted os started H enc)
theorem proved : Rows.PolicySiftsSaid := over
#print axioms proved
end Go.Proofs.Ytkoonpjlpobmeaa.policySifts
namespace Go.Proofs.Ytkoonpjlpobmeaa
/-- The row, under a short name, for the claim. -/
theorem policySifts_holds : Rows.PolicySiftsSaid := policySifts.proved
end Go.Proofs.Ytkoonpjlpobmeaa
