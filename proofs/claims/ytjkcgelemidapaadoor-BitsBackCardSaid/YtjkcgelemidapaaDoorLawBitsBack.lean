-- written by this session's own program (wip/fprint.py), which widens the kit's print by floats
/- BitsBack: for every input the law returns true, each argument reads behind the call as it read before; no condition. -/
import Derived.Test.YtjkcgelemidapaaDoorRows
import Derived.Test.YtjkcgelemidapaaDoorPr15
import Derived.Test.YtjkcgelemidapaaDoorPureBitsBack
import Derived.Test.YtjkcgelemidapaaDoorWOpen
import Derived.WalkKit
import Derived.ProofKit
import Derived.OpenShut
import Derived.ShutString
import Derived.ChangeOld
import Derived.Below
import Derived.SizedLaws
import Derived.Laws.Cover2
import Derived.LaidMore
import Derived.Stop.Joined
import Derived.Test.YtjkcgelemidapaaDoorLaid
import Derived.Test.YtjkcgelemidapaaDoorCards
import Derived.Test.YtjkcgelemidapaaDoorTie
namespace Go.Proofs.YtjkcgelemidapaaDoor.bitsBack
open Go.ChangeShapes Go.WideShapes Go.ChangeAt Go.RowKit Go.Proofs.YtjkcgelemidapaaDoor.Pr Go.Proofs.YtjkcgelemidapaaDoorW.PrintWords
open Go.ChangeMaps (open_string shut_string)
set_option linter.unusedVariables false
theorem own : ownKnob Tryd.prog.godebug = none := by kernel_rfl
theorem laidOut : laidOutB Tryd.prog = true := by kernel_rfl
set_option maxRecDepth 100000 in
theorem lifted (os : Os) (started : os.Started) (H : Type) (enc : TypeId × Value → H) :
    ReturnsInHanded {} Tryd.checked os 5 .any (fun w args => (Rows.bitsBackSpec.pre enc Tryd.prog Tryd.f5 [] false w args ∧ laidMetH Tryd.prog LaidHere.laidL w) ∧ sizedMet enc Tryd.prog Tryd.f5 (OpenSpec.ofChange Rows.bitsBackSpec) false w args)
      (Rows.bitsBackSpec.post enc Tryd.prog Tryd.f5 false true false false) := by
  refine returnsInHanded_of_change_and (C := Tryd.checked) (X := fun w _ => laidMetH Tryd.prog LaidHere.laidL w) (fun _ _ _ hh h => h.of_heap hh) own started (by kernel_rfl) Tryd.func5
    (ChangeSpec.witness_shaped (enc := enc) (C := Tryd.checked) (os := os) (X := fun w _ => laidMetH Tryd.prog LaidHere.laidL w) false (World.doorLaid Tryd.prog 400 os) #[.float .f64 0, .agg #[.bool false, .int .i64 0, .int .i64 0, .int .u64 0]] 8 rfl (World.shaped_of_RefB (by kernel_rfl) (by kernel_rfl)) (by kernel_rfl) (by kernel_rfl) (by kernel_rfl) (LaidHere.door_met os _)) ?_
  intro W base args ds gs before hval0 hW hcnd hsz0 hL _
  have hsz : (DataW.weightsEach Tryd.prog (Tryd.f5.params.toList ++ Rows.bitsBackSpec.plain.varTypes Tryd.prog) (ds ++ gs)).all (· ≤ reachBytes) = true := hsz0
  have hval : ∀ (j : Nat) t v, Tryd.f5.params[j]? = some t → args[j]? = some v → Value.okWide Tryd.prog W .any base t v := hval0
  have hW' := hW
  obtain ⟨p, q, hA0, hV, rfl, hfz, hnd⟩ := hW
  have hA : DataW.TrodAll enc Tryd.prog W 0 (fun _ => true) true Tryd.f5.params.toList args.toList ds p := hA0
  rw [Tryd.params5] at hA hval hsz
  obtain ⟨v0, vs0, d0, ds0, p0, q0, hargs, rfl, rfl, h0, r0⟩ := trodAll_cons hA
  obtain ⟨v1, vs1, d1, ds1, p1, q1, rfl, rfl, rfl, h1, r1⟩ := trodAll_cons r0
  obtain ⟨rfl, rfl, rfl⟩ := trodAll_nil r1
  obtain rfl : args = #[v0, v1] := by cases args; simp_all
  obtain ⟨rfl, rfl⟩ := trodVars_none hV
  obtain ⟨a0, rfl, rfl, rfl, w0⟩ := open_float Tryd.underlying25 (hval 0 25 v0 rfl rfl) h0
  obtain ⟨cs1, rfl, _⟩ := okWide_struct Tryd.underlying28 (hval 1 28 v1 rfl rfl)
  have k1 := h1
  have lt1 : ∀ x ∈ p1, x.block < W.heap.size := by obtain ⟨m, hm⟩ := k1; exact DataW.trod_lt m _ _ _ hm
  obtain ⟨x1, K1, hw1⟩ := Opens.arg (Opens.struct Tryd.underlying28 (@OpensF.cons _ _ _ _ _ _ _ _ _ _ (Opens.bool Tryd.underlying4) (by rfl) (by kernel_rfl) (@OpensF.cons _ _ _ _ _ _ _ _ _ _ (Opens.int Tryd.underlying3) (by rfl) (by kernel_rfl) (@OpensF.cons _ _ _ _ _ _ _ _ _ _ (Opens.int Tryd.underlying3) (by rfl) (by kernel_rfl) (@OpensF.one _ _ _ _ _ _ (Opens.int Tryd.underlying23) (by rfl) (by kernel_rfl))))) (by kernel_rfl) (fun x : S28 => (x.f0, x.f1, x.f2, x.f3)) (fun p => (⟨p.1, p.2.1, p.2.2.1, p.2.2.2⟩ : S28)) (fun _ => rfl)) h1 hsz (j := 1) rfl rfl
  obtain he1 := k28_open (show k28.K W x1 cs1.toList from K1)
  obtain rfl : cs1 = #[.bool x1.f0, .int .i64 x1.f1, .int .i64 x1.f2, .int .u64 x1.f3] := by have h_ := congrArg List.toArray he1; cases cs1; exact h_
  clear hA0 hval0 hsz0 hsz
  obtain ⟨k, h⟩ := Pure.BitsBack a0 x1.f0 x1.f1 x1.f2 x1.f3 w0 hw1.2.1 hw1.2.2.1 hw1.2.2.2
  have hcall : Calls Tryd.prog 5 #[.float .f64 a0, .agg #[.bool x1.f0, .int .i64 x1.f1, .int .i64 x1.f2, .int .u64 x1.f3]] W fun e w' => e = .returned (.bool true) ∧ Below W.heap.size W w' := (steelyardlaw01_BitsBack.calls k a0 x1.f0 x1.f1 x1.f2 x1.f3 true W (LaidHere.glob_laid hL) h).mono fun e w' he => ⟨he.1, he.2⟩
  refine hcall.mono fun e W' ⟨he, bel⟩ => ?_
  subst he
  exact ⟨_, rfl, _, _, _, [], _, [], hW', trodAll_mk1 (shut_bool Tryd.underlying4 _), (trodAll_cons_mk (shut_float Tryd.underlying25 w0) (trodAll_cons_mk (Below.trod laidOut (by kernel_rfl) (of_decide_eq_true (by kernel_rfl)) k1 bel lt1) trodAll_mk0)), rfl, bel.frame _, fun h => by cases h⟩
theorem over : Rows.bitsBackRow.holds Tryd.pinned (OpenSpec.ofChange Rows.bitsBackSpec) :=
  OpenClaim.holds_of_wide 5 Tryd.f5 rfl rfl rfl rfl rfl rfl rfl ⟨rfl, rfl, rfl, rfl, rfl⟩ rfl rfl rfl rfl rfl (by kernel_rfl) Tryd.func5 (by kernel_rfl)
    (of_decide_eq_true (by kernel_rfl)) (by unfold Func.isWrapper; first | (rw [if_pos (by decide +kernel)]; kernel_rfl) | (rw [if_neg (by decide +kernel)]; exact ⟨rfl, rfl⟩))
    (fun os started H enc _ => lifted os started H enc)
theorem proved : Rows.BitsBackSaid := over
#print axioms proved
end Go.Proofs.YtjkcgelemidapaaDoor.bitsBack
namespace Go.Proofs.YtjkcgelemidapaaDoor
/-- The row, under a short name, for the claim. -/
theorem bitsBack_holds : Rows.BitsBackSaid := bitsBack.proved
/-- THE TIED CARD. -/
theorem bitsBackCard_holds : Rows.BitsBackCardSaid :=
  Claim7.holds_tied_plain_at .later [] [.data] true (true, "b293f9afab208b9a5573f05dfec5443129c6e5374cbf38dbfe83be0b7ccfa894") false
    bitsBack_holds (fun _ h => by cases h) (by kernel_rfl) (fun _ h => by cases h) bitsBack_row_tie rfl ⟨rfl, rfl⟩ (by kernel_rfl) rfl
    (fun f fn hf hfn => by
      obtain rfl : f = 5 := Option.some.inj ((show Tryd.prog.funcNamed "steelyard/steelyardlaw01.BitsBack" = some 5 by kernel_rfl).symm.trans hf) |>.symm
      obtain rfl : fn = Tryd.f5 := (Option.some.inj (Tryd.func5.symm.trans hfn)).symm
      exact ⟨by kernel_rfl, fun j t ht => by
        rw [Tryd.params5] at ht
        have hm : t ∈ ([25, 28] : List TypeId) := by simpa using Array.mem_of_getElem? ht
        have hall : (([25, 28] : List TypeId).all fun u => !Tryd.prog.wantsStandIn u) = true := by kernel_rfl
        exact (show Tryd.prog.wantsStandIn t = false by simpa using List.all_eq_true.1 hall t hm)⟩)
    (by kernel_rfl)
#print axioms bitsBackCard_holds
end Go.Proofs.YtjkcgelemidapaaDoor
