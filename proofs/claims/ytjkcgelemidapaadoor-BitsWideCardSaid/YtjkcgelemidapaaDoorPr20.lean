-- written by this session's own program (wip/fprint.py), which widens the kit's print by floats
import Derived.Test.YtjkcgelemidapaaDoorPr0
import Derived.Test.YtjkcgelemidapaaDoorPr1
import Derived.Test.YtjkcgelemidapaaDoorPr8
import Derived.Test.YtjkcgelemidapaaDoorPr9
import Derived.Test.YtjkcgelemidapaaDoorPr14
import Derived.Test.YtjkcgelemidapaaDoorPr18
import Derived.Test.YtjkcgelemidapaaDoorPr19
namespace Go.Proofs.YtjkcgelemidapaaDoor.Pr
open Go.RowKit Go.Proofs.YtjkcgelemidapaaDoorW.PrintWords Go.Proofs.YtjkcgelemidapaaDoorW.PrintLast Go.Proofs.YtjkcgelemidapaaDoorW.PrintMore
attribute [local go_sem] max2_int min2_int max_two min_two max_three min_three max_four min_four   -- for this text's walks alone
set_option linter.unusedVariables false
set_option linter.unusedSimpArgs false

attribute [local go_sem high] eqA28
/-! ### steelyardlaw01_BitsWide: function 11 -/
mutual
def steelyardlaw01_BitsWide.j0 : Nat → Nat → Int → Bool → Nat → Bool → Option (Bool)
  | 0, _, _, _, _, _ => none
  | k + 1, x0, x1, x5, x6, x23 => if x23 = true then (none) else ((bits_Narrow.f k x6 x1).bind fun bt294 => (if x1 < 0 then (steelyardlaw01_BitsWide.j1 k x0 x5 bt294.1 bt294.2 true) else (steelyardlaw01_BitsWide.j1 k x0 x5 bt294.1 bt294.2 (decide (x1 > 4)))))
def steelyardlaw01_BitsWide.j1 : Nat → Nat → Bool → Nat → Int → Bool → Option (Bool)
  | 0, _, _, _, _, _ => none
  | k + 1, x0, x5, x7, x8, x35 => if x35 = true then (if x5 = true then (if x8 = 1 then (some ((x7 : Int) == 0)) else (none)) else (none)) else (if x5 = true then (if x8 = 0 then (if (x7 : Int) = (x0 : Int) then (some true) else (if (FloatKind.f32.format.order x0 x0 != some .eq) = true then (some ((x7 : Int) == 2143289344)) else (none))) else (none)) else (none))
end
def steelyardlaw01_BitsWide.f (k : Nat) (a0 : Nat) (a1 : Int) : Option (Bool) := (steelyardlaw01_live.f k).bind fun t282 => ((bits_Widen.f a0).bind fun t283 => ((steelyardref01_Widen.f k a0).bind fun t284 => ((steelyardlaw01_exact.f t283 t284).bind fun t285 => (if t285 = true then ((bits_Split32.f k a0).bind fun bt286 => ((steelyardref01_Split32.f a0).bind fun bt290 => (steelyardlaw01_BitsWide.j0 k a0 a1 t282 t283 (!(bt286.1 == bt290.1) || (!(bt286.2.1 == bt290.2.1) || (!(bt286.2.2.1 == bt290.2.2.1) || (!(bt286.2.2.2 == bt290.2.2.2)))))))) else (steelyardlaw01_BitsWide.j0 k a0 a1 t282 t283 true)))))
theorem steelyardlaw01_BitsWide.mono_l : ∀ k, (∀ y0 y1 y2 y3 y4, LeO (steelyardlaw01_BitsWide.j0 k y0 y1 y2 y3 y4) (steelyardlaw01_BitsWide.j0 (k + 1) y0 y1 y2 y3 y4)) ∧ (∀ y0 y1 y2 y3 y4, LeO (steelyardlaw01_BitsWide.j1 k y0 y1 y2 y3 y4) (steelyardlaw01_BitsWide.j1 (k + 1) y0 y1 y2 y3 y4))
  | 0 => ⟨fun _ _ _ _ _ r h => by simp [steelyardlaw01_BitsWide.j0] at h, fun _ _ _ _ _ r h => by simp [steelyardlaw01_BitsWide.j1] at h⟩
  | k + 1 => by
    obtain ⟨ih0, ih1⟩ := steelyardlaw01_BitsWide.mono_l k
    refine ⟨?_, ?_⟩
    · intro y0 y1 y2 y3 y4
      unfold steelyardlaw01_BitsWide.j0
      repeat' first
      | (with_reducible exact ih0 _ _ _ _ _)
      | (with_reducible exact ih1 _ _ _ _ _)
      | (with_reducible exact bits_Narrow.mono _ _ _)
      | (with_reducible exact bits_Split32.mono _ _)
      | (with_reducible exact steelyardlaw01_live.mono _)
      | (with_reducible exact steelyardref01_Widen.mono _ _)
      | (with_reducible exact LeO.refl _)
      | (with_reducible exact LeO.none _)
      | (with_reducible refine LeO.ite ?_ ?_)
      | (with_reducible refine LeO.bind ?_ (fun _ => ?_))
      | exact ih0 _ _ _ _ _
      | exact ih1 _ _ _ _ _
      | exact bits_Narrow.mono _ _ _
      | exact bits_Split32.mono _ _
      | exact steelyardlaw01_live.mono _
      | exact steelyardref01_Widen.mono _ _
      | exact LeO.none _
      | refine LeO.ite ?_ ?_
      | refine LeO.bind ?_ (fun _ => ?_)
    · intro y0 y1 y2 y3 y4
      unfold steelyardlaw01_BitsWide.j1
      repeat' first
      | (with_reducible exact ih0 _ _ _ _ _)
      | (with_reducible exact ih1 _ _ _ _ _)
      | (with_reducible exact bits_Narrow.mono _ _ _)
      | (with_reducible exact bits_Split32.mono _ _)
      | (with_reducible exact steelyardlaw01_live.mono _)
      | (with_reducible exact steelyardref01_Widen.mono _ _)
      | (with_reducible exact LeO.refl _)
      | (with_reducible exact LeO.none _)
      | (with_reducible refine LeO.ite ?_ ?_)
      | (with_reducible refine LeO.bind ?_ (fun _ => ?_))
      | exact ih0 _ _ _ _ _
      | exact ih1 _ _ _ _ _
      | exact bits_Narrow.mono _ _ _
      | exact bits_Split32.mono _ _
      | exact steelyardlaw01_live.mono _
      | exact steelyardref01_Widen.mono _ _
      | exact LeO.none _
      | refine LeO.ite ?_ ?_
      | refine LeO.bind ?_ (fun _ => ?_)
theorem steelyardlaw01_BitsWide.mono : ∀ a0 a1 k, LeO (steelyardlaw01_BitsWide.f k a0 a1) (steelyardlaw01_BitsWide.f (k + 1) a0 a1) := by
  intro a0 a1 k
  obtain ⟨ih0, ih1⟩ := steelyardlaw01_BitsWide.mono_l k
  unfold steelyardlaw01_BitsWide.f
  repeat' first
      | (with_reducible exact ih0 _ _ _ _ _)
      | (with_reducible exact ih1 _ _ _ _ _)
      | (with_reducible exact bits_Narrow.mono _ _ _)
      | (with_reducible exact bits_Split32.mono _ _)
      | (with_reducible exact steelyardlaw01_live.mono _)
      | (with_reducible exact steelyardref01_Widen.mono _ _)
      | (with_reducible exact LeO.refl _)
      | (with_reducible exact LeO.none _)
      | (with_reducible refine LeO.ite ?_ ?_)
      | (with_reducible refine LeO.bind ?_ (fun _ => ?_))
      | exact ih0 _ _ _ _ _
      | exact ih1 _ _ _ _ _
      | exact bits_Narrow.mono _ _ _
      | exact bits_Split32.mono _ _
      | exact steelyardlaw01_live.mono _
      | exact steelyardref01_Widen.mono _ _
      | exact LeO.none _
      | refine LeO.ite ?_ ?_
      | refine LeO.bind ?_ (fun _ => ?_)
set_option maxHeartbeats 3000000 in
set_option maxRecDepth 100000 in
theorem steelyardlaw01_BitsWide.calls (k : Nat) (a0 : Nat) (a1 : Int) (r : Bool) (w : World) (hG : GlobLaid w) (h : steelyardlaw01_BitsWide.f k a0 a1 = some r) :
    Calls Tryd.prog 11 #[.float .f32 a0, .int .i64 a1] w fun e w' => e = .returned (.bool r) ∧ Below w.heap.size w w' := by
  have HG := Aside0.mk hG
  clear hG
  have HB := Aside0.mk (Below.refl w.heap.size w)
  have H : ((steelyardlaw01_live.f k).bind fun t282 => ((bits_Widen.f a0).bind fun t283 => ((steelyardref01_Widen.f k a0).bind fun t284 => ((steelyardlaw01_exact.f t283 t284).bind fun t285 => (if t285 = true then ((bits_Split32.f k a0).bind fun bt286 => ((steelyardref01_Split32.f a0).bind fun bt290 => (steelyardlaw01_BitsWide.j0 k a0 a1 t282 t283 (!(bt286.1 == bt290.1) || (!(bt286.2.1 == bt290.2.1) || (!(bt286.2.2.1 == bt290.2.2.1) || (!(bt286.2.2.2 == bt290.2.2.2)))))))) else (steelyardlaw01_BitsWide.j0 k a0 a1 t282 t283 true)))))) = some r := h
  clear h
  replace H := Option.bind_eq_some_iff.mp H
  obtain ⟨t282, A30, H⟩ := H
  replace H : ((bits_Widen.f a0).bind fun t283 => ((steelyardref01_Widen.f k a0).bind fun t284 => ((steelyardlaw01_exact.f t283 t284).bind fun t285 => (if t285 = true then ((bits_Split32.f k a0).bind fun bt286 => ((steelyardref01_Split32.f a0).bind fun bt290 => (steelyardlaw01_BitsWide.j0 k a0 a1 t282 t283 (!(bt286.1 == bt290.1) || (!(bt286.2.1 == bt290.2.1) || (!(bt286.2.2.1 == bt290.2.2.1) || (!(bt286.2.2.2 == bt290.2.2.2)))))))) else (steelyardlaw01_BitsWide.j0 k a0 a1 t282 t283 true))))) = some r := H
  have A3 := Aside0.mk A30
  clear A30
  replace H := Option.bind_eq_some_iff.mp H
  obtain ⟨t283, A40, H⟩ := H
  replace H : ((steelyardref01_Widen.f k a0).bind fun t284 => ((steelyardlaw01_exact.f t283 t284).bind fun t285 => (if t285 = true then ((bits_Split32.f k a0).bind fun bt286 => ((steelyardref01_Split32.f a0).bind fun bt290 => (steelyardlaw01_BitsWide.j0 k a0 a1 t282 t283 (!(bt286.1 == bt290.1) || (!(bt286.2.1 == bt290.2.1) || (!(bt286.2.2.1 == bt290.2.2.1) || (!(bt286.2.2.2 == bt290.2.2.2)))))))) else (steelyardlaw01_BitsWide.j0 k a0 a1 t282 t283 true)))) = some r := H
  have A4 := Aside0.mk A40
  clear A40
  have HC5 := Aside0.mk H
  clear H
  go_enter Tryd.func11, Tryd.ntmps11
  go_upto_region 3 with (first | ((with_reducible refine gate_callee (f := 14) rfl ?_); refine goesL_ (some 9) rfl rfl Tryd.func14 (by kernel_rfl) rfl #[] rfl (by (try simp only [List.map_toArray, List.map_cons, List.map_nil]); first | done | rfl | (simp only [List.length_drop, List.length_take]; rfl)) ?_; (with_reducible refine (steelyardlaw01_live.calls k  t282 _ ?side1 A3.out).mono ?_); (case side1 => exact GlobLaid.below HG.out (bl_ HB)); rintro e w6 ⟨rfl, hb⟩; refine ⟨_, rfl, ?_⟩; have n0_ := bs_ HB hb; clear HB; have HB := n0_; clear n0_; (try clear hb); (try clear hb2); (try clear hk); (try clear hi)) | ((with_reducible refine gate_callee (f := 32) rfl ?_); refine goesL_ (some 11) rfl rfl Tryd.func32 (by kernel_rfl) rfl #[.float .f32 a0] rfl (by (try simp only [List.map_toArray, List.map_cons, List.map_nil]); first | done | rfl | (simp only [List.length_drop, List.length_take]; rfl)) ?_; (with_reducible refine (bits_Widen.calls a0 t283 _ A4.out).mono ?_); rintro e w' ⟨rfl, ⟨nd, rfl⟩⟩; refine ⟨_, rfl, ?_⟩))
  (try simp only [Act.put, List.setIfInBounds_toArray, List.set_cons_zero, List.set_cons_succ])
  go_cut [23] (fun v23 wc => ∃ (kq : Nat) (x23_4 : Bool), v23 = .bool x23_4 ∧ Aside0 (steelyardlaw01_BitsWide.j0 kq a0 a1 t282 t283 x23_4 = some r) ∧ Aside0 (kq ≤ k) ∧ Aside0 (Below w.heap.size w wc))
  case first =>
    have H := HC5.out
    clear HC5
    replace H := Option.bind_eq_some_iff.mp H
    obtain ⟨t284, A70, H⟩ := H
    replace H : ((steelyardlaw01_exact.f t283 t284).bind fun t285 => (if t285 = true then ((bits_Split32.f k a0).bind fun bt286 => ((steelyardref01_Split32.f a0).bind fun bt290 => (steelyardlaw01_BitsWide.j0 k a0 a1 t282 t283 (!(bt286.1 == bt290.1) || (!(bt286.2.1 == bt290.2.1) || (!(bt286.2.2.1 == bt290.2.2.1) || (!(bt286.2.2.2 == bt290.2.2.2)))))))) else (steelyardlaw01_BitsWide.j0 k a0 a1 t282 t283 true))) = some r := H
    have A7 := Aside0.mk A70
    clear A70
    replace H := Option.bind_eq_some_iff.mp H
    obtain ⟨t285, A80, H⟩ := H
    replace H : (if t285 = true then ((bits_Split32.f k a0).bind fun bt286 => ((steelyardref01_Split32.f a0).bind fun bt290 => (steelyardlaw01_BitsWide.j0 k a0 a1 t282 t283 (!(bt286.1 == bt290.1) || (!(bt286.2.1 == bt290.2.1) || (!(bt286.2.2.1 == bt290.2.2.1) || (!(bt286.2.2.2 == bt290.2.2.2)))))))) else (steelyardlaw01_BitsWide.j0 k a0 a1 t282 t283 true)) = some r := H
    have A8 := Aside0.mk A80
    clear A80
    by_cases c9 : t285 = true
    · subst c9
      have H1 : ((bits_Split32.f k a0).bind fun bt286 => ((steelyardref01_Split32.f a0).bind fun bt290 => (steelyardlaw01_BitsWide.j0 k a0 a1 t282 t283 (!(bt286.1 == bt290.1) || (!(bt286.2.1 == bt290.2.1) || (!(bt286.2.2.1 == bt290.2.2.1) || (!(bt286.2.2.2 == bt290.2.2.2)))))))) = some r := by rw [if_pos rfl] at H; exact H
      clear H
      have H := H1
      clear H1
      replace H := Option.bind_eq_some_iff.mp H
      obtain ⟨⟨t286, t287, t288, t289⟩, A100, H⟩ := H
      replace H : ((steelyardref01_Split32.f a0).bind fun bt290 => (steelyardlaw01_BitsWide.j0 k a0 a1 t282 t283 (!(t286 == bt290.1) || (!(t287 == bt290.2.1) || (!(t288 == bt290.2.2.1) || (!(t289 == bt290.2.2.2))))))) = some r := H
      have A10 := Aside0.mk A100
      clear A100
      replace H := Option.bind_eq_some_iff.mp H
      obtain ⟨⟨t290, t291, t292, t293⟩, A110, H⟩ := H
      replace H : (steelyardlaw01_BitsWide.j0 k a0 a1 t282 t283 (!(t286 == t290) || (!(t287 == t291) || (!(t288 == t292) || (!(t289 == t293)))))) = some r := H
      have A11 := Aside0.mk A110
      clear A110
      have H' := Aside0.mk H
      clear H
      go_wp2_with (first | ((with_reducible refine gate_callee (f := 35) rfl ?_); refine goesL_ (some 14) rfl rfl Tryd.func35 (by kernel_rfl) rfl #[.float .f32 a0] rfl (by (try simp only [List.map_toArray, List.map_cons, List.map_nil]); first | done | rfl | (simp only [List.length_drop, List.length_take]; rfl)) ?_; (with_reducible refine (steelyardref01_Widen.calls k a0 t284 _ A7.out).mono ?_); rintro e w12 ⟨rfl, hb⟩; refine ⟨_, rfl, ?_⟩; have n0_ := bs_ HB hb; clear HB; have HB := n0_; clear n0_; (try clear hb); (try clear hb2); (try clear hk); (try clear hi)) | ((with_reducible refine gate_callee (f := 19) rfl ?_); refine goesL_ (some 15) rfl rfl Tryd.func19 (by kernel_rfl) rfl #[.float .f64 t283, .float .f64 t284] rfl (by (try simp only [List.map_toArray, List.map_cons, List.map_nil]); first | done | rfl | (simp only [List.length_drop, List.length_take]; rfl)) ?_; (with_reducible refine (steelyardlaw01_exact.calls t283 t284 true _ A8.out).mono ?_); rintro e w' ⟨rfl, ⟨nd, rfl⟩⟩; refine ⟨_, rfl, ?_⟩) | (go_at_call 36; (with_reducible refine (bits_Split32.calls k a0 t286 t287 t288 t289 _ A10.out).mono ?_); rintro e w13 ⟨rfl, hb⟩; have n0_ := bs_ HB hb; clear HB; have HB := n0_; clear n0_; (try clear hb); (try clear hb2); (try clear hk); (try clear hi)) | (go_at_call 37; (with_reducible refine (steelyardref01_Split32.calls a0 t290 t291 t292 t293 _ A11.out).mono ?_); rintro e w14 ⟨rfl, hb⟩; have n0_ := bs_ HB hb; clear HB; have HB := n0_; clear n0_; (try clear hb); (try clear hb2); (try clear hk); (try clear hi)))
      go_meet
      case rel => exact ⟨_, ((!(t286 == t290) || (!(t287 == t291) || (!(t288 == t292) || (!(t289 == t293)))))), (by first | rfl | (simp; done) | (simp [*]; done)), H', ⟨by first | omega | exact Nat.le_refl _⟩, ⟨by repeat (first | (with_reducible first | exact HB.out | apply below_alloc | apply pw_below_drewN | apply below_drew1) | exact HB.out)⟩⟩
    · replace c9 := Bool.eq_false_iff.mpr c9
      subst c9
      have H1 : (steelyardlaw01_BitsWide.j0 k a0 a1 t282 t283 true) = some r := by rw [if_neg (show ¬ (false = true) by decide)] at H; exact H
      clear H
      have H := H1
      clear H1
      have H' := Aside0.mk H
      clear H
      go_wp2_with (first | ((with_reducible refine gate_callee (f := 35) rfl ?_); refine goesL_ (some 14) rfl rfl Tryd.func35 (by kernel_rfl) rfl #[.float .f32 a0] rfl (by (try simp only [List.map_toArray, List.map_cons, List.map_nil]); first | done | rfl | (simp only [List.length_drop, List.length_take]; rfl)) ?_; (with_reducible refine (steelyardref01_Widen.calls k a0 t284 _ A7.out).mono ?_); rintro e w15 ⟨rfl, hb⟩; refine ⟨_, rfl, ?_⟩; have n0_ := bs_ HB hb; clear HB; have HB := n0_; clear n0_; (try clear hb); (try clear hb2); (try clear hk); (try clear hi)) | ((with_reducible refine gate_callee (f := 19) rfl ?_); refine goesL_ (some 15) rfl rfl Tryd.func19 (by kernel_rfl) rfl #[.float .f64 t283, .float .f64 t284] rfl (by (try simp only [List.map_toArray, List.map_cons, List.map_nil]); first | done | rfl | (simp only [List.length_drop, List.length_take]; rfl)) ?_; (with_reducible refine (steelyardlaw01_exact.calls t283 t284 false _ A8.out).mono ?_); rintro e w' ⟨rfl, ⟨nd, rfl⟩⟩; refine ⟨_, rfl, ?_⟩))
      go_meet
      case rel => exact ⟨_, (true), (by first | rfl | (simp; done) | (simp [*]; done)), H', ⟨by first | omega | exact Nat.le_refl _⟩, ⟨by repeat (first | (with_reducible first | exact HB.out | apply below_alloc | apply pw_below_drewN | apply below_drew1) | exact HB.out)⟩⟩
  case rest =>
    clear HC5
    try clear c1
    try clear p2
    try clear c3
    try clear c9
    try clear c11
    try clear c14
    obtain ⟨kq, x23_4, rfl, HA, HJ4, HB⟩ := hcut
    cases kq with
    | zero => exact absurd HA.out (by simp [steelyardlaw01_BitsWide.j0])
    | succ kj4 =>
      have H := HA.out
      clear HA
      simp only [steelyardlaw01_BitsWide.j0] at H
      by_cases c16 : x23_4 = true
      · subst c16
        have H1 : (none) = some r := by rw [if_pos rfl] at H; exact H
        clear H
        have H := H1
        clear H1
        exact absurd H (by simp)
      · replace c16 := Bool.eq_false_iff.mpr c16
        subst c16
        have H1 : ((bits_Narrow.f kj4 t283 a1).bind fun bt294 => (if a1 < 0 then (steelyardlaw01_BitsWide.j1 kj4 a0 t282 bt294.1 bt294.2 true) else (steelyardlaw01_BitsWide.j1 kj4 a0 t282 bt294.1 bt294.2 (decide (a1 > 4))))) = some r := by rw [if_neg (show ¬ (false = true) by decide)] at H; exact H
        clear H
        have H := H1
        clear H1
        replace H := Option.bind_eq_some_iff.mp H
        obtain ⟨⟨t294, t295⟩, A170, H⟩ := H
        replace H : (if a1 < 0 then (steelyardlaw01_BitsWide.j1 kj4 a0 t282 t294 t295 true) else (steelyardlaw01_BitsWide.j1 kj4 a0 t282 t294 t295 (decide (a1 > 4)))) = some r := H
        have A17 := Aside0.mk A170
        clear A170
        have HC18 := Aside0.mk H
        clear H
        go_upto_region 6 with (first | ((with_reducible refine gate_callee (f := 24) rfl ?_); refine goesL_ (some 27) rfl rfl Tryd.func24 (by kernel_rfl) rfl #[.float .f64 t283, .int .i64 a1] rfl (by (try simp only [List.map_toArray, List.map_cons, List.map_nil]); first | done | rfl | (simp only [List.length_drop, List.length_take]; rfl)) ?_; (with_reducible refine (bits_Narrow.calls kj4 t283 a1 t294 t295 _ ?side1 A17.out).mono ?_); (case side1 => exact GlobLaid.below HG.out (bl_ HB)); rintro e w' ⟨rfl, ⟨nd, rfl⟩⟩; refine ⟨_, rfl, ?_⟩))
        (try simp only [Act.put, List.setIfInBounds_toArray, List.set_cons_zero, List.set_cons_succ])
        go_cut [35] (fun v35 wc => ∃ (kq : Nat) (x35_17 : Bool), v35 = .bool x35_17 ∧ Aside0 (steelyardlaw01_BitsWide.j1 kq a0 t282 t294 t295 x35_17 = some r) ∧ Aside0 (kq ≤ kj4) ∧ Aside0 (Below w.heap.size w wc))
        case first =>
          have H := HC18.out
          clear HC18
          by_cases c19 : a1 < 0
          · rw [if_pos c19] at H
            have c19b0 : decide (a1 < 0) = true := decide_eq_true c19
            clear c19
            (first | rw [c19b0] | (simp only [i64_w, i32_w]; rw [c19b0]) | skip)
            have H' := Aside0.mk H
            clear H
            go_wp2
            go_meet
            case rel => exact ⟨_, (true), (by first | rfl | (simp; done) | (simp [*]; done)), H', ⟨by have := HJ4.out; first | omega | exact Nat.le_refl _⟩, ⟨by repeat (first | (with_reducible first | exact HB.out | apply below_alloc | apply pw_below_drewN | apply below_drew1) | exact HB.out)⟩⟩
          · rw [if_neg c19] at H
            have c19b0 : decide (a1 < 0) = false := decide_eq_false c19
            clear c19
            (first | rw [c19b0] | (simp only [i64_w, i32_w]; rw [c19b0]) | skip)
            have H' := Aside0.mk H
            clear H
            go_wp2
            go_meet
            case rel => exact ⟨_, (decide (a1 > 4)), (by first | rfl | (simp; done) | (simp [*]; done)), H', ⟨by have := HJ4.out; first | omega | exact Nat.le_refl _⟩, ⟨by repeat (first | (with_reducible first | exact HB.out | apply below_alloc | apply pw_below_drewN | apply below_drew1) | exact HB.out)⟩⟩
        case rest =>
          clear HC18
          try clear c1
          try clear c2
          try clear p2
          try clear c3
          try clear c9
          try clear c11
          try clear c14
          try clear c16
          try clear c19
          try clear c19b0
          try clear p2
          obtain ⟨kq, x35_17, rfl, HA, HJ17, HB⟩ := hcut
          cases kq with
          | zero => exact absurd HA.out (by simp [steelyardlaw01_BitsWide.j1])
          | succ kj17 =>
            have H := HA.out
            clear HA
            simp only [steelyardlaw01_BitsWide.j1] at H
            by_cases c20 : x35_17 = true
            · subst c20
              have H1 : (if t282 = true then (if t295 = 1 then (some ((t294 : Int) == 0)) else (none)) else (none)) = some r := by rw [if_pos rfl] at H; exact H
              clear H
              have H := H1
              clear H1
              by_cases c21 : t282 = true
              · subst c21
                have H1 : (if t295 = 1 then (some ((t294 : Int) == 0)) else (none)) = some r := by rw [if_pos rfl] at H; exact H
                clear H
                have H := H1
                clear H1
                by_cases c22 : t295 = 1
                · rw [if_pos c22] at H
                  have c22b0 : (t295 == 1) = true := beq_iff_eq.mpr c22
                  have c22b1 : (t295 != 1) = false := bne_eq_false_iff_eq.mpr c22
                  clear c22
                  obtain rfl := Option.some.inj H
                  go_wp2
                  go_ret
                  exact ⟨by first | rfl | (simp [errW_none, errW_some] <;> rfl) | (simp [*, errW_none, errW_some] <;> rfl), by repeat (first | (with_reducible first | exact HB.out | apply below_alloc | apply pw_below_drewN | apply below_drew1) | exact HB.out)⟩
                · rw [if_neg c22] at H
                  exact absurd H (by simp)
              · replace c21 := Bool.eq_false_iff.mpr c21
                subst c21
                have H1 : (none) = some r := by rw [if_neg (show ¬ (false = true) by decide)] at H; exact H
                clear H
                have H := H1
                clear H1
                exact absurd H (by simp)
            · replace c20 := Bool.eq_false_iff.mpr c20
              subst c20
              have H1 : (if t282 = true then (if t295 = 0 then (if (t294 : Int) = (a0 : Int) then (some true) else (if (FloatKind.f32.format.order a0 a0 != some .eq) = true then (some ((t294 : Int) == 2143289344)) else (none))) else (none)) else (none)) = some r := by rw [if_neg (show ¬ (false = true) by decide)] at H; exact H
              clear H
              have H := H1
              clear H1
              by_cases c23 : t282 = true
              · subst c23
                have H1 : (if t295 = 0 then (if (t294 : Int) = (a0 : Int) then (some true) else (if (FloatKind.f32.format.order a0 a0 != some .eq) = true then (some ((t294 : Int) == 2143289344)) else (none))) else (none)) = some r := by rw [if_pos rfl] at H; exact H
                clear H
                have H := H1
                clear H1
                by_cases c24 : t295 = 0
                · rw [if_pos c24] at H
                  have c24b0 : (t295 == 0) = true := beq_iff_eq.mpr c24
                  have c24b1 : (t295 != 0) = false := bne_eq_false_iff_eq.mpr c24
                  clear c24
                  by_cases c25 : (t294 : Int) = (a0 : Int)
                  · rw [if_pos c25] at H
                    have c25b0 : ((t294 : Int) == (a0 : Int)) = true := beq_iff_eq.mpr c25
                    have c25b1 : ((t294 : Int) != (a0 : Int)) = false := bne_eq_false_iff_eq.mpr c25
                    clear c25
                    obtain rfl := Option.some.inj H
                    go_wp2
                    go_ret
                    exact ⟨by first | rfl | (simp [errW_none, errW_some] <;> rfl) | (simp [*, errW_none, errW_some] <;> rfl), by repeat (first | (with_reducible first | exact HB.out | apply below_alloc | apply pw_below_drewN | apply below_drew1) | exact HB.out)⟩
                  · rw [if_neg c25] at H
                    have c25b0 : ((t294 : Int) == (a0 : Int)) = false := beq_eq_false_iff_ne.mpr c25
                    have c25b1 : ((t294 : Int) != (a0 : Int)) = true := bne_iff_ne.mpr c25
                    by_cases c26 : (FloatKind.f32.format.order a0 a0 != some .eq) = true
                    · rw [if_pos c26] at H
                      have c26b0 : (FloatKind.f32.format.order a0 a0 != some .eq) = true := c26
                      clear c26
                      obtain rfl := Option.some.inj H
                      go_wp2
                      go_ret
                      exact ⟨by first | rfl | (simp [errW_none, errW_some] <;> rfl) | (simp [*, errW_none, errW_some] <;> rfl), by repeat (first | (with_reducible first | exact HB.out | apply below_alloc | apply pw_below_drewN | apply below_drew1) | exact HB.out)⟩
                    · rw [if_neg c26] at H
                      exact absurd H (by simp)
                · rw [if_neg c24] at H
                  exact absurd H (by simp)
              · replace c23 := Bool.eq_false_iff.mpr c23
                subst c23
                have H1 : (none) = some r := by rw [if_neg (show ¬ (false = true) by decide)] at H; exact H
                clear H
                have H := H1
                clear H1
                exact absurd H (by simp)

/-- THE ONE PURE STATEMENT of steelyardlaw01_BitsWide: yours. -/
def steelyardlaw01_BitsWide.Pure : Prop := ∀ (a0 : Nat) (a1 : Int), (Lit.float .f32 a0).wf = true → (Lit.int .i64 a1).wf = true → ∃ k, steelyardlaw01_BitsWide.f k a0 a1 = some true

end Go.Proofs.YtjkcgelemidapaaDoor.Pr
