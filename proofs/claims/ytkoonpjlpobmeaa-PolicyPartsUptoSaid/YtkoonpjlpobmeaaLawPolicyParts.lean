-- written by this session's own program (wip/fprint.py), which widens the kit's print by floats
/- PolicyParts: for every input of a bulk up to 1,048,576 the law returns true, each argument reads behind the call as it read before. -/
import Derived.Test.YtkoonpjlpobmeaaRows
import Derived.Test.YtkoonpjlpobmeaaPr17
import Derived.Test.YtkoonpjlpobmeaaPurePolicyParts
import Derived.Test.YtkoonpjlpobmeaaWOpen
import Derived.WalkKit
import Derived.ProofKit
import Derived.OpenShut
import Derived.ShutString
import Derived.ChangeOld
import Derived.Below
import Derived.SizedLaws
import Derived.Deep.CondSized
import Derived.Laws.Cover2
namespace Go.Proofs.Ytkoonpjlpobmeaa.policyParts
open Go.ChangeShapes Go.WideShapes Go.ChangeAt Go.RowKit Go.Proofs.Ytkoonpjlpobmeaa.Pr Go.Proofs.YtkoonpjlpobmeaaW.PrintWords
open Go.ChangeMaps (open_string shut_string)
set_option linter.unusedVariables false
set_option linter.unusedSimpArgs false
theorem own : ownKnob Try.prog.godebug = none := by kernel_rfl
theorem laidOut : laidOutB Try.prog = true := by kernel_rfl
/-- A slice's length is within its reading's bulk. -/
theorem bulk_slice {H : Type} {enc : TypeId × Value → H} {P : Program} {w : World} {base : Nat} {spare : Nat → Bool} {held : Bool} {t e : TypeId} {a : Option Addr} {n c : Nat} {d : DataW H} {ps : List MemPlace} (ht : P.underlying t = some (.slice e)) (h : DataW.Trod enc P w base spare held t (.slice a n c) d ps) : n ≤ Rows.uptoBulk d := by
  have ln : ∀ l : List (DataW H), l.length ≤ Rows.uptoBulkAll l := by
    intro l
    induction l with
    | nil => simp [Rows.uptoBulkAll]
    | cons x r ih =>
      have : 1 ≤ Rows.uptoBulk x := by
        cases x with
        | lit l => cases l <;> simp [Rows.uptoBulk]
        | nil => simp [Rows.uptoBulk]
        | ptr d => simp [Rows.uptoBulk]
        | slice elems spare => simp [Rows.uptoBulk]
        | agg parts => simp [Rows.uptoBulk]
        | iface t d => simp [Rows.uptoBulk]
        | map entries => simp [Rows.uptoBulk]
        | held h => simp [Rows.uptoBulk]
      simp only [Rows.uptoBulkAll, List.length_cons]; omega
  obtain ⟨fuel, hf⟩ := h
  rcases DataW.trod_slice ht hf with ⟨h0, _⟩ | ⟨a', len, cap, elems, rest, m, _, hcs, hx, _, _, _, hlen, _, _⟩
  · have : n = 0 := by simp [Value.cells] at h0; exact h0.2.1
    omega
  · have e1 : n = len := by simp [Value.cells] at hcs; exact hcs.2.1
    have e2 : d = _ := congrArg Prod.fst hx
    rw [e2]
    simp only [Rows.uptoBulk]
    have := ln (elems.map (·.1))
    rw [List.length_map] at this
    omega
set_option maxRecDepth 100000 in
theorem lifted (os : Os) (started : os.Started) (H : Type) (enc : TypeId × Value → H) (F : Stop.Interp) :
    ReturnsInHanded {} Try.checked os 6 .any ((Rows.OpenSpec.upto Rows.policyPartsSpec).pre6 enc Try.prog Try.f6 Rows.policyPartsUptoRow.domain false) (((Rows.OpenSpec.upto Rows.policyPartsSpec).at F).post enc Try.prog Try.f6 false true false false) := by
  refine returnsInHanded_of_cond_sized (C := Try.checked) (s := Rows.OpenSpec.upto Rows.policyPartsSpec) (k := Rows.uptoSmall) rfl own started (by kernel_rfl) Try.func6
    (OpenSpec.witness (enc := enc) (C := Try.checked) (s := Rows.OpenSpec.upto Rows.policyPartsSpec) (k := Rows.uptoSmall) rfl false ⟨#[], #[.slice none 0 0, .slice none 0 0, .agg #[.int .i64 0, .int .i64 0]], []⟩ 8 (by kernel_rfl) (by kernel_rfl) (by kernel_rfl)
      (x := ([.nil, .nil, .agg [.lit (.int .i64 0), .lit (.int .i64 0)]], [], [])) (by kernel_rfl) rfl (by kernel_rfl)) ?_
  intro W base args ds gs before hval0 hW hcnd hk0 hsz0 _
  have hsz : (DataW.weightsEach Try.prog (Try.f6.params.toList ++ Rows.policyPartsSpec.plain.varTypes Try.prog) (ds ++ gs)).all (· ≤ reachBytes) = true := hsz0
  have hval : ∀ (j : Nat) t v, Try.f6.params[j]? = some t → args[j]? = some v → Value.okWide Try.prog W .any base t v := hval0
  have hW' := hW
  obtain ⟨p, q, hA0, hV, rfl, hfz, hnd⟩ := hW
  have hA : DataW.TrodAll enc Try.prog W 0 (fun _ => true) true Try.f6.params.toList args.toList ds p := hA0
  rw [Try.params6] at hA hval hsz
  obtain ⟨v0, vs0, d0, ds0, p0, q0, hargs, rfl, rfl, h0, r0⟩ := trodAll_cons hA
  obtain ⟨v1, vs1, d1, ds1, p1, q1, rfl, rfl, rfl, h1, r1⟩ := trodAll_cons r0
  obtain ⟨v2, vs2, d2, ds2, p2, q2, rfl, rfl, rfl, h2, r2⟩ := trodAll_cons r1
  obtain ⟨rfl, rfl, rfl⟩ := trodAll_nil r2
  obtain rfl : args = #[v0, v1, v2] := by cases args; simp_all
  obtain ⟨rfl, rfl⟩ := trodVars_none hV
  obtain ⟨a0, len0, cap0, rfl⟩ := okWide_slice Try.underlying27 (hval 0 27 v0 rfl rfl)
  have k0 := h0
  have lt0 : ∀ x ∈ p0, x.block < W.heap.size := by obtain ⟨m, hm⟩ := k0; exact DataW.trod_lt m _ _ _ hm
  obtain ⟨l0, ⟨A0, c0, he0, hc0, hr0⟩, hw0⟩ := Opens.arg (Opens.slice (B := 8) Try.underlying27 (Opens.float Try.underlying41) (by kernel_rfl) (by kernel_rfl)) h0 hsz (j := 0) rfl rfl
  obtain ⟨rfl, rfl, rfl⟩ : a0 = A0 ∧ len0 = l0.length ∧ cap0 = c0 := by simpa [Value.cells] using he0
  obtain ⟨a1, len1, cap1, rfl⟩ := okWide_slice Try.underlying27 (hval 1 27 v1 rfl rfl)
  have k1 := h1
  have lt1 : ∀ x ∈ p1, x.block < W.heap.size := by obtain ⟨m, hm⟩ := k1; exact DataW.trod_lt m _ _ _ hm
  obtain ⟨l1, ⟨A1, c1, he1, hc1, hr1⟩, hw1⟩ := Opens.arg (Opens.slice (B := 8) Try.underlying27 (Opens.float Try.underlying41) (by kernel_rfl) (by kernel_rfl)) h1 hsz (j := 1) rfl rfl
  obtain ⟨rfl, rfl, rfl⟩ : a1 = A1 ∧ len1 = l1.length ∧ cap1 = c1 := by simpa [Value.cells] using he1
  obtain ⟨cs2, rfl, _⟩ := okWide_struct Try.underlying23 (hval 2 23 v2 rfl rfl)
  have k2 := h2
  have lt2 : ∀ x ∈ p2, x.block < W.heap.size := by obtain ⟨m, hm⟩ := k2; exact DataW.trod_lt m _ _ _ hm
  obtain ⟨x2, K2, hw2⟩ := Opens.arg (Opens.struct Try.underlying23 (@OpensF.cons _ _ _ _ _ _ _ _ _ _ (Opens.int Try.underlying3) (by rfl) (by kernel_rfl) (@OpensF.one _ _ _ _ _ _ (Opens.int Try.underlying3) (by rfl) (by kernel_rfl))) (by kernel_rfl) (fun x : S23 => (x.f0, x.f1)) (fun p => (⟨p.1, p.2⟩ : S23)) (fun _ => rfl)) h2 hsz (j := 2) rfl rfl
  obtain he2 := k23_open (show k23.K W x2 cs2.toList from K2)
  obtain rfl : cs2 = #[.int .i64 x2.f0, .int .i64 x2.f1] := by have h_ := congrArg List.toArray he2; cases cs2; exact h_
  have hb_ : Rows.uptoBulkAll _ ≤ 1048576 := of_decide_eq_true hk0
  simp only [List.append_nil, List.cons_append, List.nil_append, Rows.uptoBulkAll] at hb_
  have hl0 : l0.length ≤ 1048576 := by have := bulk_slice Try.underlying27 k0; omega
  have hl1 : l1.length ≤ 1048576 := by have := bulk_slice Try.underlying27 k1; omega
  clear hA0 hval0 hsz0 hsz hb_ hk0
  obtain ⟨k, h⟩ := Pure.PolicyParts_upto l0 l1 x2.f0 x2.f1 hl0 hl1 (fun y_ hy_ => Go.Proofs.YtkoonpjlpobmeaaW.FL.f64_wf (hw0.2.2 y_ hy_)) (fun y_ hy_ => Go.Proofs.YtkoonpjlpobmeaaW.FL.f64_wf (hw1.2.2 y_ hy_))
  have hcall : Calls Try.prog 6 #[.slice a0 l0.length cap0, .slice a1 l1.length cap1, .agg #[.int .i64 x2.f0, .int .i64 x2.f1]] W fun e w' => e = .returned (.bool true) ∧ Below W.heap.size W w' := (steelyardlaw06_PolicyParts.calls k _ _ l0 _ _ l1 x2.f0 x2.f1 true W hr0 hc0 hr1 hc1 h).mono fun e w' he => ⟨he.1, he.2⟩
  refine hcall.mono fun e W' ⟨he, bel⟩ => ?_
  subst he
  exact ⟨_, rfl, _, _, _, [], _, [], hW', trodAll_mk1 (shut_bool Try.underlying4 _), (trodAll_cons_mk (Below.trod laidOut (by kernel_rfl) (of_decide_eq_true (by kernel_rfl)) k0 bel lt0) (trodAll_cons_mk (Below.trod laidOut (by kernel_rfl) (of_decide_eq_true (by kernel_rfl)) k1 bel lt1) (trodAll_cons_mk (Below.trod laidOut (by kernel_rfl) (of_decide_eq_true (by kernel_rfl)) k2 bel lt2) trodAll_mk0))), rfl, bel.frame _, fun h => by cases h⟩
theorem proved : Rows.PolicyPartsUptoSaid :=
  OpenClaim.holds_of_cond 6 Try.f6 rfl rfl rfl rfl rfl rfl rfl ⟨rfl, rfl, rfl, rfl, rfl⟩ rfl rfl rfl rfl rfl (by kernel_rfl) Try.func6 (by kernel_rfl)
    (of_decide_eq_true (by kernel_rfl)) (by unfold Func.isWrapper; first | (rw [if_pos (by decide +kernel)]; kernel_rfl) | (rw [if_neg (by decide +kernel)]; exact ⟨rfl, rfl⟩))
    (fun os started H enc _ F => lifted os started H enc F)
#print axioms proved
end Go.Proofs.Ytkoonpjlpobmeaa.policyParts
namespace Go.Proofs.Ytkoonpjlpobmeaa
/-- The row, under a short name, for the claim. -/
theorem policyPartsUpto_holds : Rows.PolicyPartsUptoSaid := policyParts.proved
end Go.Proofs.Ytkoonpjlpobmeaa
