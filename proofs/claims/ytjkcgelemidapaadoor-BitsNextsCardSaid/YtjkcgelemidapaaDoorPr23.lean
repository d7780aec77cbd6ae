-- written by this session's own program (wip/fprint.py), which widens the kit's print by floats
import Derived.Test.YtjkcgelemidapaaDoorPr0
import Derived.Test.YtjkcgelemidapaaDoorPr9
import Derived.Test.YtjkcgelemidapaaDoorPr14
import Derived.Test.YtjkcgelemidapaaDoorPr21
import Derived.Test.YtjkcgelemidapaaDoorPr22
namespace Go.Proofs.YtjkcgelemidapaaDoor.Pr
open Go.RowKit Go.Proofs.YtjkcgelemidapaaDoorW.PrintWords Go.Proofs.YtjkcgelemidapaaDoorW.PrintLast Go.Proofs.YtjkcgelemidapaaDoorW.PrintMore
attribute [local go_sem] max2_int min2_int max_two min_two max_three min_three max_four min_four   -- for this text's walks alone
set_option linter.unusedVariables false
set_option linter.unusedSimpArgs false

/-! ### steelyardlaw01_BitsNexts: function 12 -/
def steelyardlaw01_BitsNexts.f (k : Nat) (a0 : Nat) : Option (Bool) := (steelyardlaw01_live.f k).bind fun t340 => (if t340 = true then ((bits_Next.f a0).bind fun t341 => ((steelyardref01_Next.f k a0).bind fun t342 => ((steelyardlaw01_exact.f t341 t342).bind fun t343 => (if t343 = true then ((bits_Prev.f a0).bind fun t344 => ((steelyardref01_Prev.f k a0).bind fun t345 => ((steelyardlaw01_exact.f t344 t345).bind fun t346 => (if t346 = true then ((bits_Ulp.f a0).bind fun t347 => ((steelyardref01_Ulp.f k a0).bind fun t348 => ((steelyardlaw01_exact.f t347 t348).bind fun t349 => (some t349)))) else (none))))) else (none))))) else (none))
theorem steelyardlaw01_BitsNexts.mono : ∀ a0 k, LeO (steelyardlaw01_BitsNexts.f k a0) (steelyardlaw01_BitsNexts.f (k + 1) a0) := by
  intro a0 k
  unfold steelyardlaw01_BitsNexts.f
  repeat' first
      | (with_reducible exact steelyardlaw01_live.mono _)
      | (with_reducible exact steelyardref01_Next.mono _ _)
      | (with_reducible exact steelyardref01_Prev.mono _ _)
      | (with_reducible exact steelyardref01_Ulp.mono _ _)
      | (with_reducible exact LeO.refl _)
      | (with_reducible exact LeO.none _)
      | (with_reducible refine LeO.ite ?_ ?_)
      | (with_reducible refine LeO.bind ?_ (fun _ => ?_))
      | exact steelyardlaw01_live.mono _
      | exact steelyardref01_Next.mono _ _
      | exact steelyardref01_Prev.mono _ _
      | exact steelyardref01_Ulp.mono _ _
      | exact LeO.none _
      | refine LeO.ite ?_ ?_
      | refine LeO.bind ?_ (fun _ => ?_)
set_option maxHeartbeats 3000000 in
set_option maxRecDepth 100000 in
theorem steelyardlaw01_BitsNexts.calls (k : Nat) (a0 : Nat) (r : Bool) (w : World) (hG : GlobLaid w) (h : steelyardlaw01_BitsNexts.f k a0 = some r) :
    Calls Tryd.prog 12 #[.float .f64 a0] w fun e w' => e = .returned (.bool r) ∧ Below w.heap.size w w' := by
  have HG := Aside0.mk hG
  clear hG
  have HB := Aside0.mk (Below.refl w.heap.size w)
  have H : ((steelyardlaw01_live.f k).bind fun t340 => (if t340 = true then ((bits_Next.f a0).bind fun t341 => ((steelyardref01_Next.f k a0).bind fun t342 => ((steelyardlaw01_exact.f t341 t342).bind fun t343 => (if t343 = true then ((bits_Prev.f a0).bind fun t344 => ((steelyardref01_Prev.f k a0).bind fun t345 => ((steelyardlaw01_exact.f t344 t345).bind fun t346 => (if t346 = true then ((bits_Ulp.f a0).bind fun t347 => ((steelyardref01_Ulp.f k a0).bind fun t348 => ((steelyardlaw01_exact.f t347 t348).bind fun t349 => (some t349)))) else (none))))) else (none))))) else (none))) = some r := h
  clear h
  replace H := Option.bind_eq_some_iff.mp H
  obtain ⟨t340, A20, H⟩ := H
  replace H : (if t340 = true then ((bits_Next.f a0).bind fun t341 => ((steelyardref01_Next.f k a0).bind fun t342 => ((steelyardlaw01_exact.f t341 t342).bind fun t343 => (if t343 = true then ((bits_Prev.f a0).bind fun t344 => ((steelyardref01_Prev.f k a0).bind fun t345 => ((steelyardlaw01_exact.f t344 t345).bind fun t346 => (if t346 = true then ((bits_Ulp.f a0).bind fun t347 => ((steelyardref01_Ulp.f k a0).bind fun t348 => ((steelyardlaw01_exact.f t347 t348).bind fun t349 => (some t349)))) else (none))))) else (none))))) else (none)) = some r := H
  have A2 := Aside0.mk A20
  clear A20
  by_cases c3 : t340 = true
  · subst c3
    have H1 : ((bits_Next.f a0).bind fun t341 => ((steelyardref01_Next.f k a0).bind fun t342 => ((steelyardlaw01_exact.f t341 t342).bind fun t343 => (if t343 = true then ((bits_Prev.f a0).bind fun t344 => ((steelyardref01_Prev.f k a0).bind fun t345 => ((steelyardlaw01_exact.f t344 t345).bind fun t346 => (if t346 = true then ((bits_Ulp.f a0).bind fun t347 => ((steelyardref01_Ulp.f k a0).bind fun t348 => ((steelyardlaw01_exact.f t347 t348).bind fun t349 => (some t349)))) else (none))))) else (none))))) = some r := by rw [if_pos rfl] at H; exact H
    clear H
    have H := H1
    clear H1
    replace H := Option.bind_eq_some_iff.mp H
    obtain ⟨t341, A40, H⟩ := H
    replace H : ((steelyardref01_Next.f k a0).bind fun t342 => ((steelyardlaw01_exact.f t341 t342).bind fun t343 => (if t343 = true then ((bits_Prev.f a0).bind fun t344 => ((steelyardref01_Prev.f k a0).bind fun t345 => ((steelyardlaw01_exact.f t344 t345).bind fun t346 => (if t346 = true then ((bits_Ulp.f a0).bind fun t347 => ((steelyardref01_Ulp.f k a0).bind fun t348 => ((steelyardlaw01_exact.f t347 t348).bind fun t349 => (some t349)))) else (none))))) else (none)))) = some r := H
    have A4 := Aside0.mk A40
    clear A40
    replace H := Option.bind_eq_some_iff.mp H
    obtain ⟨t342, A50, H⟩ := H
    replace H : ((steelyardlaw01_exact.f t341 t342).bind fun t343 => (if t343 = true then ((bits_Prev.f a0).bind fun t344 => ((steelyardref01_Prev.f k a0).bind fun t345 => ((steelyardlaw01_exact.f t344 t345).bind fun t346 => (if t346 = true then ((bits_Ulp.f a0).bind fun t347 => ((steelyardref01_Ulp.f k a0).bind fun t348 => ((steelyardlaw01_exact.f t347 t348).bind fun t349 => (some t349)))) else (none))))) else (none))) = some r := H
    have A5 := Aside0.mk A50
    clear A50
    replace H := Option.bind_eq_some_iff.mp H
    obtain ⟨t343, A60, H⟩ := H
    replace H : (if t343 = true then ((bits_Prev.f a0).bind fun t344 => ((steelyardref01_Prev.f k a0).bind fun t345 => ((steelyardlaw01_exact.f t344 t345).bind fun t346 => (if t346 = true then ((bits_Ulp.f a0).bind fun t347 => ((steelyardref01_Ulp.f k a0).bind fun t348 => ((steelyardlaw01_exact.f t347 t348).bind fun t349 => (some t349)))) else (none))))) else (none)) = some r := H
    have A6 := Aside0.mk A60
    clear A60
    by_cases c7 : t343 = true
    · subst c7
      have H1 : ((bits_Prev.f a0).bind fun t344 => ((steelyardref01_Prev.f k a0).bind fun t345 => ((steelyardlaw01_exact.f t344 t345).bind fun t346 => (if t346 = true then ((bits_Ulp.f a0).bind fun t347 => ((steelyardref01_Ulp.f k a0).bind fun t348 => ((steelyardlaw01_exact.f t347 t348).bind fun t349 => (some t349)))) else (none))))) = some r := by rw [if_pos rfl] at H; exact H
      clear H
      have H := H1
      clear H1
      replace H := Option.bind_eq_some_iff.mp H
      obtain ⟨t344, A80, H⟩ := H
      replace H : ((steelyardref01_Prev.f k a0).bind fun t345 => ((steelyardlaw01_exact.f t344 t345).bind fun t346 => (if t346 = true then ((bits_Ulp.f a0).bind fun t347 => ((steelyardref01_Ulp.f k a0).bind fun t348 => ((steelyardlaw01_exact.f t347 t348).bind fun t349 => (some t349)))) else (none)))) = some r := H
      have A8 := Aside0.mk A80
      clear A80
      replace H := Option.bind_eq_some_iff.mp H
      obtain ⟨t345, A90, H⟩ := H
      replace H : ((steelyardlaw01_exact.f t344 t345).bind fun t346 => (if t346 = true then ((bits_Ulp.f a0).bind fun t347 => ((steelyardref01_Ulp.f k a0).bind fun t348 => ((steelyardlaw01_exact.f t347 t348).bind fun t349 => (some t349)))) else (none))) = some r := H
      have A9 := Aside0.mk A90
      clear A90
      replace H := Option.bind_eq_some_iff.mp H
      obtain ⟨t346, A100, H⟩ := H
      replace H : (if t346 = true then ((bits_Ulp.f a0).bind fun t347 => ((steelyardref01_Ulp.f k a0).bind fun t348 => ((steelyardlaw01_exact.f t347 t348).bind fun t349 => (some t349)))) else (none)) = some r := H
      have A10 := Aside0.mk A100
      clear A100
      by_cases c11 : t346 = true
      · subst c11
        have H1 : ((bits_Ulp.f a0).bind fun t347 => ((steelyardref01_Ulp.f k a0).bind fun t348 => ((steelyardlaw01_exact.f t347 t348).bind fun t349 => (some t349)))) = some r := by rw [if_pos rfl] at H; exact H
        clear H
        have H := H1
        clear H1
        replace H := Option.bind_eq_some_iff.mp H
        obtain ⟨t347, A120, H⟩ := H
        replace H : ((steelyardref01_Ulp.f k a0).bind fun t348 => ((steelyardlaw01_exact.f t347 t348).bind fun t349 => (some t349))) = some r := H
        have A12 := Aside0.mk A120
        clear A120
        replace H := Option.bind_eq_some_iff.mp H
        obtain ⟨t348, A130, H⟩ := H
        replace H : ((steelyardlaw01_exact.f t347 t348).bind fun t349 => (some t349)) = some r := H
        have A13 := Aside0.mk A130
        clear A130
        replace H := Option.bind_eq_some_iff.mp H
        obtain ⟨t349, A140, H⟩ := H
        replace H : (some t349) = some r := H
        have A14 := Aside0.mk A140
        clear A140
        obtain rfl := Option.some.inj H
        go_enter Tryd.func12, Tryd.ntmps12
        go_wp2_with (first | ((with_reducible refine gate_callee (f := 14) rfl ?_); refine goesL_ (some 4) rfl rfl Tryd.func14 (by kernel_rfl) rfl #[] rfl (by (try simp only [List.map_toArray, List.map_cons, List.map_nil]); first | done | rfl | (simp only [List.length_drop, List.length_take]; rfl)) ?_; (with_reducible refine (steelyardlaw01_live.calls k  true _ ?side1 A2.out).mono ?_); (case side1 => exact GlobLaid.below HG.out (bl_ HB)); rintro e w15 ⟨rfl, hb⟩; refine ⟨_, rfl, ?_⟩; have n0_ := bs_ HB hb; clear HB; have HB := n0_; clear n0_; (try clear hb); (try clear hb2); (try clear hk); (try clear hi)) | (go_at_call 38; (with_reducible refine (bits_Next.calls a0 t341 _ A4.out).mono ?_); rintro e w' ⟨rfl, ⟨nd, rfl⟩⟩) | (go_at_call 39; (with_reducible refine (steelyardref01_Next.calls k a0 t342 _ A5.out).mono ?_); rintro e w16 ⟨rfl, hb⟩; have n0_ := bs_ HB hb; clear HB; have HB := n0_; clear n0_; (try clear hb); (try clear hb2); (try clear hk); (try clear hi)) | (go_at_call 19; (with_reducible refine (steelyardlaw01_exact.calls t341 t342 true _ A6.out).mono ?_); rintro e w' ⟨rfl, ⟨nd, rfl⟩⟩) | (go_at_call 40; (with_reducible refine (bits_Prev.calls a0 t344 _ A8.out).mono ?_); rintro e w' ⟨rfl, ⟨nd, rfl⟩⟩) | (go_at_call 41; (with_reducible refine (steelyardref01_Prev.calls k a0 t345 _ A9.out).mono ?_); rintro e w17 ⟨rfl, hb⟩; have n0_ := bs_ HB hb; clear HB; have HB := n0_; clear n0_; (try clear hb); (try clear hb2); (try clear hk); (try clear hi)) | (go_at_call 19; (with_reducible refine (steelyardlaw01_exact.calls t344 t345 true _ A10.out).mono ?_); rintro e w' ⟨rfl, ⟨nd, rfl⟩⟩) | (go_at_call 42; (with_reducible refine (bits_Ulp.calls a0 t347 _ A12.out).mono ?_); rintro e w' ⟨rfl, ⟨nd, rfl⟩⟩) | (go_at_call 43; (with_reducible refine (steelyardref01_Ulp.calls k a0 t348 _ A13.out).mono ?_); rintro e w18 ⟨rfl, hb⟩; have n0_ := bs_ HB hb; clear HB; have HB := n0_; clear n0_; (try clear hb); (try clear hb2); (try clear hk); (try clear hi)) | (go_at_call 19; (with_reducible refine (steelyardlaw01_exact.calls t347 t348 t349 _ A14.out).mono ?_); rintro e w' ⟨rfl, ⟨nd, rfl⟩⟩))
        go_ret
        exact ⟨by first | rfl | (simp [errW_none, errW_some] <;> rfl) | (simp [*, errW_none, errW_some] <;> rfl), by repeat (first | (with_reducible first | exact HB.out | apply below_alloc | apply pw_below_drewN | apply below_drew1) | exact HB.out)⟩
      · replace c11 := Bool.eq_false_iff.mpr c11
        subst c11
        have H1 : (none) = some r := by rw [if_neg (show ¬ (false = true) by decide)] at H; exact H
        clear H
        have H := H1
        clear H1
        exact absurd H (by simp)
    · replace c7 := Bool.eq_false_iff.mpr c7
      subst c7
      have H1 : (none) = some r := by rw [if_neg (show ¬ (false = true) by decide)] at H; exact H
      clear H
      have H := H1
      clear H1
      exact absurd H (by simp)
  · replace c3 := Bool.eq_false_iff.mpr c3
    subst c3
    have H1 : (none) = some r := by rw [if_neg (show ¬ (false = true) by decide)] at H; exact H
    clear H
    have H := H1
    clear H1
    exact absurd H (by simp)

/-- THE ONE PURE STATEMENT of steelyardlaw01_BitsNexts: yours. -/
def steelyardlaw01_BitsNexts.Pure : Prop := ∀ (a0 : Nat), (Lit.float .f64 a0).wf = true → ∃ k, steelyardlaw01_BitsNexts.f k a0 = some true

end Go.Proofs.YtjkcgelemidapaaDoor.Pr
