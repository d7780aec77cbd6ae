-- written by this session's own program (wip/fprint.py), which widens the kit's print by floats
import Derived.Test.YtjkcgelemidapaaDoorPr0
import Derived.Test.YtjkcgelemidapaaDoorPr6
import Derived.Test.YtjkcgelemidapaaDoorPr9
import Derived.Test.YtjkcgelemidapaaDoorPr10
namespace Go.Proofs.YtjkcgelemidapaaDoor.Pr
open Go.RowKit Go.Proofs.YtjkcgelemidapaaDoorW.PrintWords Go.Proofs.YtjkcgelemidapaaDoorW.PrintLast Go.Proofs.YtjkcgelemidapaaDoorW.PrintMore
attribute [local go_sem] max2_int min2_int max_two min_two max_three min_three max_four min_four   -- for this text's walks alone
set_option linter.unusedVariables false
set_option linter.unusedSimpArgs false

/-! ### steelyardref01_place: function 54 -/
def steelyardref01_place.f (a0 : Nat) : Option (Int) := (steelyardref01_Bits.f a0).bind fun t211 => (if t211 ≥ 9223372036854775808 then (some (wrap64 ((-1) - (wrap64 (IntKind.u64.wrap (t211 - 9223372036854775808)))))) else (some (wrap64 (t211))))
set_option maxHeartbeats 3000000 in
set_option maxRecDepth 100000 in
theorem steelyardref01_place.calls (a0 : Nat) (r : Int) (w : World) (h : steelyardref01_place.f a0 = some r) :
    Calls Tryd.prog 54 #[.float .f64 a0] w fun e w' => e = .returned (.int .i64 r) ∧ Drawn0 w w' := by
  have H : ((steelyardref01_Bits.f a0).bind fun t211 => (if t211 ≥ 9223372036854775808 then (some (wrap64 ((-1) - (wrap64 (IntKind.u64.wrap (t211 - 9223372036854775808)))))) else (some (wrap64 (t211))))) = some r := h
  clear h
  replace H := Option.bind_eq_some_iff.mp H
  obtain ⟨t211, A20, H⟩ := H
  replace H : (if t211 ≥ 9223372036854775808 then (some (wrap64 ((-1) - (wrap64 (IntKind.u64.wrap (t211 - 9223372036854775808)))))) else (some (wrap64 (t211)))) = some r := H
  have A2 := Aside0.mk A20
  clear A20
  by_cases c3 : t211 ≥ 9223372036854775808
  · rw [if_pos c3] at H
    have c3b0 : decide (9223372036854775808 ≤ t211) = true := decide_eq_true c3
    clear c3
    obtain rfl := Option.some.inj H
    go_enter Tryd.func54, Tryd.ntmps54
    go_wp2_with (first | ((with_reducible refine gate_callee (f := 61) rfl ?_); refine goesL_ (some 5) rfl rfl Tryd.func61 (by kernel_rfl) rfl #[.float .f64 a0] rfl (by (try simp only [List.map_toArray, List.map_cons, List.map_nil]); first | done | rfl | (simp only [List.length_drop, List.length_take]; rfl)) ?_; (with_reducible refine (steelyardref01_Bits.calls a0 t211 _ A2.out).mono ?_); rintro e w' ⟨rfl, ⟨nd, rfl⟩⟩; refine ⟨_, rfl, ?_⟩))
    go_ret
    exact ⟨by first | rfl | (simp; done) | (simp [*]; done), by repeat (first | exact Drawn0.refl _ | apply Drawn0.step)⟩
  · rw [if_neg c3] at H
    have c3b0 : decide (9223372036854775808 ≤ t211) = false := decide_eq_false c3
    clear c3
    obtain rfl := Option.some.inj H
    go_enter Tryd.func54, Tryd.ntmps54
    go_wp2_with (first | ((with_reducible refine gate_callee (f := 61) rfl ?_); refine goesL_ (some 5) rfl rfl Tryd.func61 (by kernel_rfl) rfl #[.float .f64 a0] rfl (by (try simp only [List.map_toArray, List.map_cons, List.map_nil]); first | done | rfl | (simp only [List.length_drop, List.length_take]; rfl)) ?_; (with_reducible refine (steelyardref01_Bits.calls a0 t211 _ A2.out).mono ?_); rintro e w' ⟨rfl, ⟨nd, rfl⟩⟩; refine ⟨_, rfl, ?_⟩))
    go_ret
    exact ⟨by first | rfl | (simp; done) | (simp [*]; done), by repeat (first | exact Drawn0.refl _ | apply Drawn0.step)⟩

/-! ### steelyardref01_Order: function 23 -/
def steelyardref01_Order.f (a0 : Nat) (a1 : Nat) : Option (Int) := (steelyardref01_place.f a0).bind fun t212 => ((steelyardref01_place.f a1).bind fun t213 => (if t212 < t213 then (some (-1)) else (if t212 > t213 then (some 1) else (some 0))))
set_option maxHeartbeats 3000000 in
set_option maxRecDepth 100000 in
theorem steelyardref01_Order.calls (a0 : Nat) (a1 : Nat) (r : Int) (w : World) (h : steelyardref01_Order.f a0 a1 = some r) :
    Calls Tryd.prog 23 #[.float .f64 a0, .float .f64 a1] w fun e w' => e = .returned (.int .i64 r) ∧ Drawn0 w w' := by
  have H : ((steelyardref01_place.f a0).bind fun t212 => ((steelyardref01_place.f a1).bind fun t213 => (if t212 < t213 then (some (-1)) else (if t212 > t213 then (some 1) else (some 0))))) = some r := h
  clear h
  replace H := Option.bind_eq_some_iff.mp H
  obtain ⟨t212, A30, H⟩ := H
  replace H : ((steelyardref01_place.f a1).bind fun t213 => (if t212 < t213 then (some (-1)) else (if t212 > t213 then (some 1) else (some 0)))) = some r := H
  have A3 := Aside0.mk A30
  clear A30
  replace H := Option.bind_eq_some_iff.mp H
  obtain ⟨t213, A40, H⟩ := H
  replace H : (if t212 < t213 then (some (-1)) else (if t212 > t213 then (some 1) else (some 0))) = some r := H
  have A4 := Aside0.mk A40
  clear A40
  by_cases c5 : t212 < t213
  · rw [if_pos c5] at H
    have c5b0 : decide (t212 < t213) = true := decide_eq_true c5
    clear c5
    obtain rfl := Option.some.inj H
    go_enter Tryd.func23, Tryd.ntmps23
    go_wp2_with (first | ((with_reducible refine gate_callee (f := 54) rfl ?_); refine goesL_ (some 8) rfl rfl Tryd.func54 (by kernel_rfl) rfl #[.float .f64 a0] rfl (by (try simp only [List.map_toArray, List.map_cons, List.map_nil]); first | done | rfl | (simp only [List.length_drop, List.length_take]; rfl)) ?_; (with_reducible refine (steelyardref01_place.calls a0 t212 _ A3.out).mono ?_); rintro e w' ⟨rfl, ⟨nd, rfl⟩⟩; refine ⟨_, rfl, ?_⟩) | ((with_reducible refine gate_callee (f := 54) rfl ?_); refine goesL_ (some 10) rfl rfl Tryd.func54 (by kernel_rfl) rfl #[.float .f64 a1] rfl (by (try simp only [List.map_toArray, List.map_cons, List.map_nil]); first | done | rfl | (simp only [List.length_drop, List.length_take]; rfl)) ?_; (with_reducible refine (steelyardref01_place.calls a1 t213 _ A4.out).mono ?_); rintro e w' ⟨rfl, ⟨nd, rfl⟩⟩; refine ⟨_, rfl, ?_⟩))
    go_ret
    exact ⟨by first | rfl | (simp; done) | (simp [*]; done), by repeat (first | exact Drawn0.refl _ | apply Drawn0.step)⟩
  · rw [if_neg c5] at H
    have c5b0 : decide (t212 < t213) = false := decide_eq_false c5
    clear c5
    by_cases c6 : t212 > t213
    · rw [if_pos c6] at H
      have c6b0 : decide (t213 < t212) = true := decide_eq_true c6
      clear c6
      obtain rfl := Option.some.inj H
      go_enter Tryd.func23, Tryd.ntmps23
      go_wp2_with (first | ((with_reducible refine gate_callee (f := 54) rfl ?_); refine goesL_ (some 8) rfl rfl Tryd.func54 (by kernel_rfl) rfl #[.float .f64 a0] rfl (by (try simp only [List.map_toArray, List.map_cons, List.map_nil]); first | done | rfl | (simp only [List.length_drop, List.length_take]; rfl)) ?_; (with_reducible refine (steelyardref01_place.calls a0 t212 _ A3.out).mono ?_); rintro e w' ⟨rfl, ⟨nd, rfl⟩⟩; refine ⟨_, rfl, ?_⟩) | ((with_reducible refine gate_callee (f := 54) rfl ?_); refine goesL_ (some 10) rfl rfl Tryd.func54 (by kernel_rfl) rfl #[.float .f64 a1] rfl (by (try simp only [List.map_toArray, List.map_cons, List.map_nil]); first | done | rfl | (simp only [List.length_drop, List.length_take]; rfl)) ?_; (with_reducible refine (steelyardref01_place.calls a1 t213 _ A4.out).mono ?_); rintro e w' ⟨rfl, ⟨nd, rfl⟩⟩; refine ⟨_, rfl, ?_⟩))
      go_ret
      exact ⟨by first | rfl | (simp; done) | (simp [*]; done), by repeat (first | exact Drawn0.refl _ | apply Drawn0.step)⟩
    · rw [if_neg c6] at H
      have c6b0 : decide (t213 < t212) = false := decide_eq_false c6
      clear c6
      obtain rfl := Option.some.inj H
      go_enter Tryd.func23, Tryd.ntmps23
      go_wp2_with (first | ((with_reducible refine gate_callee (f := 54) rfl ?_); refine goesL_ (some 8) rfl rfl Tryd.func54 (by kernel_rfl) rfl #[.float .f64 a0] rfl (by (try simp only [List.map_toArray, List.map_cons, List.map_nil]); first | done | rfl | (simp only [List.length_drop, List.length_take]; rfl)) ?_; (with_reducible refine (steelyardref01_place.calls a0 t212 _ A3.out).mono ?_); rintro e w' ⟨rfl, ⟨nd, rfl⟩⟩; refine ⟨_, rfl, ?_⟩) | ((with_reducible refine gate_callee (f := 54) rfl ?_); refine goesL_ (some 10) rfl rfl Tryd.func54 (by kernel_rfl) rfl #[.float .f64 a1] rfl (by (try simp only [List.map_toArray, List.map_cons, List.map_nil]); first | done | rfl | (simp only [List.length_drop, List.length_take]; rfl)) ?_; (with_reducible refine (steelyardref01_place.calls a1 t213 _ A4.out).mono ?_); rintro e w' ⟨rfl, ⟨nd, rfl⟩⟩; refine ⟨_, rfl, ?_⟩))
      go_ret
      exact ⟨by first | rfl | (simp; done) | (simp [*]; done), by repeat (first | exact Drawn0.refl _ | apply Drawn0.step)⟩

/-! ### steelyardlaw01_BitsOrders: function 6 -/
def steelyardlaw01_BitsOrders.f (k : Nat) (a0 : Nat) (a1 : Nat) : Option (Bool) := (steelyardlaw01_live.f k).bind fun t214 => (if t214 = true then ((bits_Order.f a0 a1).bind fun t215 => ((steelyardref01_Order.f a0 a1).bind fun t216 => (if t215 = t216 then ((bits_Order.f a1 a0).bind fun t217 => ((steelyardref01_Order.f a1 a0).bind fun t218 => (some (t217 == t218)))) else (none)))) else (none))
theorem steelyardlaw01_BitsOrders.mono : ∀ a0 a1 k, LeO (steelyardlaw01_BitsOrders.f k a0 a1) (steelyardlaw01_BitsOrders.f (k + 1) a0 a1) := by
  intro a0 a1 k
  unfold steelyardlaw01_BitsOrders.f
  repeat' first
      | (with_reducible exact steelyardlaw01_live.mono _)
      | (with_reducible exact LeO.refl _)
      | (with_reducible exact LeO.none _)
      | (with_reducible refine LeO.ite ?_ ?_)
      | (with_reducible refine LeO.bind ?_ (fun _ => ?_))
      | exact steelyardlaw01_live.mono _
      | exact LeO.none _
      | refine LeO.ite ?_ ?_
      | refine LeO.bind ?_ (fun _ => ?_)
set_option maxHeartbeats 3000000 in
set_option maxRecDepth 100000 in
theorem steelyardlaw01_BitsOrders.calls (k : Nat) (a0 : Nat) (a1 : Nat) (r : Bool) (w : World) (hG : GlobLaid w) (h : steelyardlaw01_BitsOrders.f k a0 a1 = some r) :
    Calls Tryd.prog 6 #[.float .f64 a0, .float .f64 a1] w fun e w' => e = .returned (.bool r) ∧ Below w.heap.size w w' := by
  have HG := Aside0.mk hG
  clear hG
  have HB := Aside0.mk (Below.refl w.heap.size w)
  have H : ((steelyardlaw01_live.f k).bind fun t214 => (if t214 = true then ((bits_Order.f a0 a1).bind fun t215 => ((steelyardref01_Order.f a0 a1).bind fun t216 => (if t215 = t216 then ((bits_Order.f a1 a0).bind fun t217 => ((steelyardref01_Order.f a1 a0).bind fun t218 => (some (t217 == t218)))) else (none)))) else (none))) = some r := h
  clear h
  replace H := Option.bind_eq_some_iff.mp H
  obtain ⟨t214, A30, H⟩ := H
  replace H : (if t214 = true then ((bits_Order.f a0 a1).bind fun t215 => ((steelyardref01_Order.f a0 a1).bind fun t216 => (if t215 = t216 then ((bits_Order.f a1 a0).bind fun t217 => ((steelyardref01_Order.f a1 a0).bind fun t218 => (some (t217 == t218)))) else (none)))) else (none)) = some r := H
  have A3 := Aside0.mk A30
  clear A30
  by_cases c4 : t214 = true
  · subst c4
    have H1 : ((bits_Order.f a0 a1).bind fun t215 => ((steelyardref01_Order.f a0 a1).bind fun t216 => (if t215 = t216 then ((bits_Order.f a1 a0).bind fun t217 => ((steelyardref01_Order.f a1 a0).bind fun t218 => (some (t217 == t218)))) else (none)))) = some r := by rw [if_pos rfl] at H; exact H
    clear H
    have H := H1
    clear H1
    replace H := Option.bind_eq_some_iff.mp H
    obtain ⟨t215, A50, H⟩ := H
    replace H : ((steelyardref01_Order.f a0 a1).bind fun t216 => (if t215 = t216 then ((bits_Order.f a1 a0).bind fun t217 => ((steelyardref01_Order.f a1 a0).bind fun t218 => (some (t217 == t218)))) else (none))) = some r := H
    have A5 := Aside0.mk A50
    clear A50
    replace H := Option.bind_eq_some_iff.mp H
    obtain ⟨t216, A60, H⟩ := H
    replace H : (if t215 = t216 then ((bits_Order.f a1 a0).bind fun t217 => ((steelyardref01_Order.f a1 a0).bind fun t218 => (some (t217 == t218)))) else (none)) = some r := H
    have A6 := Aside0.mk A60
    clear A60
    by_cases c7 : t215 = t216
    · rw [if_pos c7] at H
      have c7b0 : (t215 == t216) = true := beq_iff_eq.mpr c7
      have c7b1 : (t215 != t216) = false := bne_eq_false_iff_eq.mpr c7
      clear c7
      replace H := Option.bind_eq_some_iff.mp H
      obtain ⟨t217, A80, H⟩ := H
      replace H : ((steelyardref01_Order.f a1 a0).bind fun t218 => (some (t217 == t218))) = some r := H
      have A8 := Aside0.mk A80
      clear A80
      replace H := Option.bind_eq_some_iff.mp H
      obtain ⟨t218, A90, H⟩ := H
      replace H : (some (t217 == t218)) = some r := H
      have A9 := Aside0.mk A90
      clear A90
      obtain rfl := Option.some.inj H
      go_enter Tryd.func6, Tryd.ntmps6
      go_wp2_with (first | ((with_reducible refine gate_callee (f := 14) rfl ?_); refine goesL_ (some 6) rfl rfl Tryd.func14 (by kernel_rfl) rfl #[] rfl (by (try simp only [List.map_toArray, List.map_cons, List.map_nil]); first | done | rfl | (simp only [List.length_drop, List.length_take]; rfl)) ?_; (with_reducible refine (steelyardlaw01_live.calls k  true _ ?side1 A3.out).mono ?_); (case side1 => exact GlobLaid.below HG.out (bl_ HB)); rintro e w10 ⟨rfl, hb⟩; refine ⟨_, rfl, ?_⟩; have n0_ := bs_ HB hb; clear HB; have HB := n0_; clear n0_; (try clear hb); (try clear hb2); (try clear hk); (try clear hi)) | (go_at_call 22; (with_reducible refine (bits_Order.calls a0 a1 t215 _ A5.out).mono ?_); rintro e w' ⟨rfl, ⟨nd, rfl⟩⟩) | (go_at_call 23; (with_reducible refine (steelyardref01_Order.calls a0 a1 t216 _ A6.out).mono ?_); rintro e w' ⟨rfl, ⟨nd, rfl⟩⟩) | (go_at_call 22; (with_reducible refine (bits_Order.calls a1 a0 t217 _ A8.out).mono ?_); rintro e w' ⟨rfl, ⟨nd, rfl⟩⟩) | (go_at_call 23; (with_reducible refine (steelyardref01_Order.calls a1 a0 t218 _ A9.out).mono ?_); rintro e w' ⟨rfl, ⟨nd, rfl⟩⟩))
      go_ret
      exact ⟨by first | rfl | (simp [errW_none, errW_some] <;> rfl) | (simp [*, errW_none, errW_some] <;> rfl), by repeat (first | (with_reducible first | exact HB.out | apply below_alloc | apply pw_below_drewN | apply below_drew1) | exact HB.out)⟩
    · rw [if_neg c7] at H
      exact absurd H (by simp)
  · replace c4 := Bool.eq_false_iff.mpr c4
    subst c4
    have H1 : (none) = some r := by rw [if_neg (show ¬ (false = true) by decide)] at H; exact H
    clear H
    have H := H1
    clear H1
    exact absurd H (by simp)

/-- THE ONE PURE STATEMENT of steelyardlaw01_BitsOrders: yours. -/
def steelyardlaw01_BitsOrders.Pure : Prop := ∀ (a0 : Nat) (a1 : Nat), (Lit.float .f64 a0).wf = true → (Lit.float .f64 a1).wf = true → ∃ k, steelyardlaw01_BitsOrders.f k a0 a1 = some true

/-! ### bits_Same: function 27 -/
def bits_Same.f (a0 : Nat) (a1 : Nat) : Option (Bool) := if (a0 : Int) = (a1 : Int) then (some true) else (if (FloatKind.f64.format.order a0 a0 != some .eq) = true then (some (FloatKind.f64.format.order a1 a1 != some .eq)) else (some false))
set_option maxHeartbeats 3000000 in
set_option maxRecDepth 100000 in
theorem bits_Same.calls (a0 : Nat) (a1 : Nat) (r : Bool) (w : World) (h : bits_Same.f a0 a1 = some r) :
    Calls Tryd.prog 27 #[.float .f64 a0, .float .f64 a1] w fun e w' => e = .returned (.bool r) ∧ Drawn0 w w' := by
  have H : (if (a0 : Int) = (a1 : Int) then (some true) else (if (FloatKind.f64.format.order a0 a0 != some .eq) = true then (some (FloatKind.f64.format.order a1 a1 != some .eq)) else (some false))) = some r := h
  clear h
  by_cases c3 : (a0 : Int) = (a1 : Int)
  · rw [if_pos c3] at H
    have c3b0 : ((a0 : Int) == (a1 : Int)) = true := beq_iff_eq.mpr c3
    have c3b1 : ((a0 : Int) != (a1 : Int)) = false := bne_eq_false_iff_eq.mpr c3
    clear c3
    obtain rfl := Option.some.inj H
    go_enter Tryd.func27, Tryd.ntmps27
    go_wp2
    go_ret
    exact ⟨by first | rfl | (simp; done) | (simp [*]; done), by repeat (first | exact Drawn0.refl _ | apply Drawn0.step)⟩
  · rw [if_neg c3] at H
    have c3b0 : ((a0 : Int) == (a1 : Int)) = false := beq_eq_false_iff_ne.mpr c3
    have c3b1 : ((a0 : Int) != (a1 : Int)) = true := bne_iff_ne.mpr c3
    by_cases c4 : (FloatKind.f64.format.order a0 a0 != some .eq) = true
    · rw [if_pos c4] at H
      have c4b0 : (FloatKind.f64.format.order a0 a0 != some .eq) = true := c4
      clear c4
      obtain rfl := Option.some.inj H
      go_enter Tryd.func27, Tryd.ntmps27
      go_wp2
      go_ret
      exact ⟨by first | rfl | (simp; done) | (simp [*]; done), by repeat (first | exact Drawn0.refl _ | apply Drawn0.step)⟩
    · rw [if_neg c4] at H
      have c4b0 : (FloatKind.f64.format.order a0 a0 != some .eq) = false := by simpa using c4
      clear c4
      obtain rfl := Option.some.inj H
      go_enter Tryd.func27, Tryd.ntmps27
      go_wp2
      go_ret
      exact ⟨by first | rfl | (simp; done) | (simp [*]; done), by repeat (first | exact Drawn0.refl _ | apply Drawn0.step)⟩

end Go.Proofs.YtjkcgelemidapaaDoor.Pr
