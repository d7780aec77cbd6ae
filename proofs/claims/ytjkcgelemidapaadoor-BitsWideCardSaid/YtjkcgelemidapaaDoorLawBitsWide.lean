-- written by this session's own program (wip/fprint.py), which widens the kit's print by floats
/- BitsWide: for every input the law returns true, each argument reads behind the call as it read before; no condition. -/
import Derived.Test.YtjkcgelemidapaaDoorRows
import Derived.Test.YtjkcgelemidapaaDoorPr20
import Derived.Test.YtjkcgelemidapaaDoorPureBitsWide
import Derived.Test.YtjkcgelemidapaaDoorWOpen
import Derived.WalkKit
import Derived.ProofKit
import Derived.OpenShut
import Derived.ShutString
import Derived.ChangeOld
import Derived.Below
import Derived.SizedLaws
import Derived.Laws.Cover2
import Derived.LaidMore
import Derived.Stop.Joined
import Derived.Test.YtjkcgelemidapaaDoorLaid
import Derived.Test.YtjkcgelemidapaaDoorCards
import Derived.Test.YtjkcgelemidapaaDoorTie
namespace Go.Proofs.YtjkcgelemidapaaDoor.bitsWide
open Go.ChangeShapes Go.WideShapes Go.ChangeAt Go.RowKit Go.Proofs.YtjkcgelemidapaaDoor.Pr Go.Proofs.YtjkcgelemidapaaDoorW.PrintWords
open Go.ChangeMaps (open_string shut_string)
set_option linter.unusedVariables false
theorem own : ownKnob Tryd.prog.godebug = none := by kernel_rfl
set_option maxRecDepth 100000 in
theorem lifted (os : Os) (started : os.Started) (H : Type) (enc : TypeId × Value → H) :
    ReturnsInHanded {} Tryd.checked os 11 .any (fun w args => (Rows.bitsWideSpec.pre enc Tryd.prog Tryd.f11 [] false w args ∧ laidMetH Tryd.prog LaidHere.laidL w) ∧ sizedMet enc Tryd.prog Tryd.f11 (OpenSpec.ofChange Rows.bitsWideSpec) false w args)
      (Rows.bitsWideSpec.post enc Tryd.prog Tryd.f11 false true false false) := by
  refine returnsInHanded_of_change_and (C := Tryd.checked) (X := fun w _ => laidMetH Tryd.prog LaidHere.laidL w) (fun _ _ _ hh h => h.of_heap hh) own started (by kernel_rfl) Tryd.func11
    (ChangeSpec.witness_shaped (enc := enc) (C := Tryd.checked) (os := os) (X := fun w _ => laidMetH Tryd.prog LaidHere.laidL w) false (World.doorLaid Tryd.prog 400 os) #[.float .f32 0, .int .i64 0] 8 rfl (World.shaped_of_RefB (by kernel_rfl) (by kernel_rfl)) (by kernel_rfl) (by kernel_rfl) (by kernel_rfl) (LaidHere.door_met os _)) ?_
  intro W base args ds gs before hval0 hW hcnd hsz0 hL _
  have hsz : (DataW.weightsEach Tryd.prog (Tryd.f11.params.toList ++ Rows.bitsWideSpec.plain.varTypes Tryd.prog) (ds ++ gs)).all (· ≤ reachBytes) = true := hsz0
  have hval : ∀ (j : Nat) t v, Tryd.f11.params[j]? = some t → args[j]? = some v → Value.okWide Tryd.prog W .any base t v := hval0
  have hW' := hW
  obtain ⟨p, q, hA0, hV, rfl, hfz, hnd⟩ := hW
  have hA : DataW.TrodAll enc Tryd.prog W 0 (fun _ => true) true Tryd.f11.params.toList args.toList ds p := hA0
  rw [Tryd.params11] at hA hval hsz
  obtain ⟨v0, vs0, d0, ds0, p0, q0, hargs, rfl, rfl, h0, r0⟩ := trodAll_cons hA
  obtain ⟨v1, vs1, d1, ds1, p1, q1, rfl, rfl, rfl, h1, r1⟩ := trodAll_cons r0
  obtain ⟨rfl, rfl, rfl⟩ := trodAll_nil r1
  obtain rfl : args = #[v0, v1] := by cases args; simp_all
  obtain ⟨rfl, rfl⟩ := trodVars_none hV
  obtain ⟨a0, rfl, rfl, rfl, w0⟩ := open_float Tryd.underlying38 (hval 0 38 v0 rfl rfl) h0
  obtain ⟨a1, rfl, rfl, rfl, w1⟩ := open_int Tryd.underlying3 (hval 1 3 v1 rfl rfl) h1
  clear hA0 hval0 hsz0 hsz
  obtain ⟨k, h⟩ := Pure.BitsWide a0 a1 w0 w1
  have hcall : Calls Tryd.prog 11 #[.float .f32 a0, .int .i64 a1] W fun e w' => e = .returned (.bool true) ∧ Below W.heap.size W w' := (steelyardlaw01_BitsWide.calls k a0 a1 true W (LaidHere.glob_laid hL) h).mono fun e w' he => ⟨he.1, he.2⟩
  refine hcall.mono fun e W' ⟨he, bel⟩ => ?_
  subst he
  exact ⟨_, rfl, _, _, _, [], _, [], hW', trodAll_mk1 (shut_bool Tryd.underlying4 _), (trodAll_cons_mk (shut_float Tryd.underlying38 w0) (trodAll_cons_mk (shut_int Tryd.underlying3 w1) trodAll_mk0)), rfl, bel.frame _, fun h => by cases h⟩
theorem over : Rows.bitsWideRow.holds Tryd.pinned (OpenSpec.ofChange Rows.bitsWideSpec) :=
  OpenClaim.holds_of_wide 11 Tryd.f11 rfl rfl rfl rfl rfl rfl rfl ⟨rfl, rfl, rfl, rfl, rfl⟩ rfl rfl rfl rfl rfl (by kernel_rfl) Tryd.func11 (by kernel_rfl)
    (of_decide_eq_true (by kernel_rfl)) (by unfold Func.isWrapper; first | (rw [if_pos (by decide +kernel)]; kernel_rfl) | (rw [if_neg (by decide +kernel)]; exact ⟨rfl, rfl⟩))
    (fun os started H enc _ => lifted os started H enc)
theorem proved : Rows.BitsWideSaid := over
#print axioms proved
end Go.Proofs.YtjkcgelemidapaaDoor.bitsWide
namespace Go.Proofs.YtjkcgelemidapaaDoor
/-- The row, under a short name, for the claim. -/
theorem bitsWide_holds : Rows.BitsWideSaid := bitsWide.proved
/-- THE TIED CARD. -/
theorem bitsWideCard_holds : Rows.BitsWideCardSaid :=
  Claim7.holds_tied_plain_at .later [] [.data] true (true, "b293f9afab208b9a5573f05dfec5443129c6e5374cbf38dbfe83be0b7ccfa894") false
    bitsWide_holds (fun _ h => by cases h) (by kernel_rfl) (fun _ h => by cases h) bitsWide_row_tie rfl ⟨rfl, rfl⟩ (by kernel_rfl) rfl
    (fun f fn hf hfn => by
      obtain rfl : f = 11 := Option.some.inj ((show Tryd.prog.funcNamed "steelyard/steelyardlaw01.BitsWide" = some 11 by kernel_rfl).symm.trans hf) |>.symm
      obtain rfl : fn = Tryd.f11 := (Option.some.inj (Tryd.func11.symm.trans hfn)).symm
      exact ⟨by kernel_rfl, fun j t ht => by
        rw [Tryd.params11] at ht
        have hm : t ∈ ([38, 3] : List TypeId) := by simpa using Array.mem_of_getElem? ht
        have hall : (([38, 3] : List TypeId).all fun u => !Tryd.prog.wantsStandIn u) = true := by kernel_rfl
        exact (show Tryd.prog.wantsStandIn t = false by simpa using List.all_eq_true.1 hall t hm)⟩)
    (by kernel_rfl)
#print axioms bitsWideCard_holds
end Go.Proofs.YtjkcgelemidapaaDoor
