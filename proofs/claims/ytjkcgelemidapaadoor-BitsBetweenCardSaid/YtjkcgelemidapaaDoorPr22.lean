-- written by this session's own program (wip/fprint.py), which widens the kit's print by floats
import Derived.Test.YtjkcgelemidapaaDoorPr0
import Derived.Test.YtjkcgelemidapaaDoorPr2
import Derived.Test.YtjkcgelemidapaaDoorPr6
import Derived.Test.YtjkcgelemidapaaDoorPr9
import Derived.Test.YtjkcgelemidapaaDoorPr10
import Derived.Test.YtjkcgelemidapaaDoorPr11
import Derived.Test.YtjkcgelemidapaaDoorPr12
import Derived.Test.YtjkcgelemidapaaDoorPr21
namespace Go.Proofs.YtjkcgelemidapaaDoor.Pr
open Go.RowKit Go.Proofs.YtjkcgelemidapaaDoorW.PrintWords Go.Proofs.YtjkcgelemidapaaDoorW.PrintLast Go.Proofs.YtjkcgelemidapaaDoorW.PrintMore
attribute [local go_sem] max2_int min2_int max_two min_two max_three min_three max_four min_four   -- for this text's walks alone
set_option linter.unusedVariables false
set_option linter.unusedSimpArgs false

/-! ### bits_Prev: function 40 -/
def bits_Prev.f (a0 : Nat) : Option (Nat) := if (FloatKind.f64.format.order a0 a0 != some .eq) = true then ((bits_NaN.f).bind fun t316 => (some t316)) else ((bits_Next.f (Op.negFloat .f64 a0)).bind fun t317 => (some (Op.negFloat .f64 t317)))
set_option maxHeartbeats 3000000 in
set_option maxRecDepth 100000 in
theorem bits_Prev.calls (a0 : Nat) (r : Nat) (w : World) (h : bits_Prev.f a0 = some r) :
    Calls Tryd.prog 40 #[.float .f64 a0] w fun e w' => e = .returned (.float .f64 r) ∧ Drawn0 w w' := by
  have H : (if (FloatKind.f64.format.order a0 a0 != some .eq) = true then ((bits_NaN.f).bind fun t316 => (some t316)) else ((bits_Next.f (Op.negFloat .f64 a0)).bind fun t317 => (some (Op.negFloat .f64 t317)))) = some r := h
  clear h
  by_cases c2 : (FloatKind.f64.format.order a0 a0 != some .eq) = true
  · rw [if_pos c2] at H
    have c2b0 : (FloatKind.f64.format.order a0 a0 != some .eq) = true := c2
    clear c2
    replace H := Option.bind_eq_some_iff.mp H
    obtain ⟨t316, A30, H⟩ := H
    replace H : (some t316) = some r := H
    have A3 := Aside0.mk A30
    clear A30
    obtain rfl := Option.some.inj H
    go_enter Tryd.func40, Tryd.ntmps40
    go_wp2_with (first | ((with_reducible refine gate_callee (f := 16) rfl ?_); refine goesL_ (some 6) rfl rfl Tryd.func16 (by kernel_rfl) rfl #[] rfl (by (try simp only [List.map_toArray, List.map_cons, List.map_nil]); first | done | rfl | (simp only [List.length_drop, List.length_take]; rfl)) ?_; (with_reducible refine (bits_NaN.calls  t316 _ A3.out).mono ?_); rintro e w' ⟨rfl, ⟨nd, rfl⟩⟩; refine ⟨_, rfl, ?_⟩))
    go_ret
    exact ⟨by first | rfl | (simp; done) | (simp [*]; done), by repeat (first | exact Drawn0.refl _ | apply Drawn0.step)⟩
  · rw [if_neg c2] at H
    have c2b0 : (FloatKind.f64.format.order a0 a0 != some .eq) = false := by simpa using c2
    clear c2
    replace H := Option.bind_eq_some_iff.mp H
    obtain ⟨t317, A40, H⟩ := H
    replace H : (some (Op.negFloat .f64 t317)) = some r := H
    have A4 := Aside0.mk A40
    clear A40
    obtain rfl := Option.some.inj H
    go_enter Tryd.func40, Tryd.ntmps40
    go_wp2_with (first | ((with_reducible refine gate_callee (f := 38) rfl ?_); refine goesL_ (some 9) rfl rfl Tryd.func38 (by kernel_rfl) rfl #[.float .f64 (Op.negFloat .f64 a0)] rfl (by (try simp only [List.map_toArray, List.map_cons, List.map_nil]); first | done | rfl | (simp only [List.length_drop, List.length_take]; rfl)) ?_; (with_reducible refine (bits_Next.calls (Op.negFloat .f64 a0) t317 _ A4.out).mono ?_); rintro e w' ⟨rfl, ⟨nd, rfl⟩⟩; refine ⟨_, rfl, ?_⟩))
    go_ret
    exact ⟨by first | rfl | (simp; done) | (simp [*]; done), by repeat (first | exact Drawn0.refl _ | apply Drawn0.step)⟩

/-! ### steelyardref01_Less: function 66 -/
def steelyardref01_Less.f (a0 : Nat) : Option (Nat) := (steelyardref01_Bits.f a0).bind fun t318 => (if t318 = 9221120237041090560 then ((steelyardref01_Of.f t318).bind fun t319 => (some t319)) else (if t318 ≥ 9223372036854775808 then ((steelyardref01_Of.f (IntKind.u64.wrap (t318 - 9223372036854775808))).bind fun t320 => (some t320)) else ((steelyardref01_Of.f (IntKind.u64.wrap (t318 + 9223372036854775808))).bind fun t321 => (some t321))))
set_option maxHeartbeats 3000000 in
set_option maxRecDepth 100000 in
theorem steelyardref01_Less.calls (a0 : Nat) (r : Nat) (w : World) (h : steelyardref01_Less.f a0 = some r) :
    Calls Tryd.prog 66 #[.float .f64 a0] w fun e w' => e = .returned (.float .f64 r) ∧ Drawn0 w w' := by
  have H : ((steelyardref01_Bits.f a0).bind fun t318 => (if t318 = 9221120237041090560 then ((steelyardref01_Of.f t318).bind fun t319 => (some t319)) else (if t318 ≥ 9223372036854775808 then ((steelyardref01_Of.f (IntKind.u64.wrap (t318 - 9223372036854775808))).bind fun t320 => (some t320)) else ((steelyardref01_Of.f (IntKind.u64.wrap (t318 + 9223372036854775808))).bind fun t321 => (some t321))))) = some r := h
  clear h
  replace H := Option.bind_eq_some_iff.mp H
  obtain ⟨t318, A20, H⟩ := H
  replace H : (if t318 = 9221120237041090560 then ((steelyardref01_Of.f t318).bind fun t319 => (some t319)) else (if t318 ≥ 9223372036854775808 then ((steelyardref01_Of.f (IntKind.u64.wrap (t318 - 9223372036854775808))).bind fun t320 => (some t320)) else ((steelyardref01_Of.f (IntKind.u64.wrap (t318 + 9223372036854775808))).bind fun t321 => (some t321)))) = some r := H
  have A2 := Aside0.mk A20
  clear A20
  by_cases c3 : t318 = 9221120237041090560
  · rw [if_pos c3] at H
    have c3b0 : (t318 == 9221120237041090560) = true := beq_iff_eq.mpr c3
    have c3b1 : (t318 != 9221120237041090560) = false := bne_eq_false_iff_eq.mpr c3
    clear c3
    replace H := Option.bind_eq_some_iff.mp H
    obtain ⟨t319, A40, H⟩ := H
    replace H : (some t319) = some r := H
    have A4 := Aside0.mk A40
    clear A40
    obtain rfl := Option.some.inj H
    go_enter Tryd.func66, Tryd.ntmps66
    go_wp2_with (first | ((with_reducible refine gate_callee (f := 61) rfl ?_); refine goesL_ (some 5) rfl rfl Tryd.func61 (by kernel_rfl) rfl #[.float .f64 a0] rfl (by (try simp only [List.map_toArray, List.map_cons, List.map_nil]); first | done | rfl | (simp only [List.length_drop, List.length_take]; rfl)) ?_; (with_reducible refine (steelyardref01_Bits.calls a0 t318 _ A2.out).mono ?_); rintro e w' ⟨rfl, ⟨nd, rfl⟩⟩; refine ⟨_, rfl, ?_⟩) | ((with_reducible refine gate_callee (f := 48) rfl ?_); refine goesL_ (some 9) rfl rfl Tryd.func48 (by kernel_rfl) rfl #[.int .u64 t318] rfl (by (try simp only [List.map_toArray, List.map_cons, List.map_nil]); first | done | rfl | (simp only [List.length_drop, List.length_take]; rfl)) ?_; (with_reducible refine (steelyardref01_Of.calls t318 t319 _ A4.out).mono ?_); rintro e w' ⟨rfl, ⟨nd, rfl⟩⟩; refine ⟨_, rfl, ?_⟩))
    go_ret
    exact ⟨by first | rfl | (simp; done) | (simp [*]; done), by repeat (first | exact Drawn0.refl _ | apply Drawn0.step)⟩
  · rw [if_neg c3] at H
    have c3b0 : (t318 == 9221120237041090560) = false := beq_eq_false_iff_ne.mpr c3
    have c3b1 : (t318 != 9221120237041090560) = true := bne_iff_ne.mpr c3
    by_cases c5 : t318 ≥ 9223372036854775808
    · rw [if_pos c5] at H
      have c5b0 : decide (9223372036854775808 ≤ t318) = true := decide_eq_true c5
      clear c5
      replace H := Option.bind_eq_some_iff.mp H
      obtain ⟨t320, A60, H⟩ := H
      replace H : (some t320) = some r := H
      have A6 := Aside0.mk A60
      clear A60
      obtain rfl := Option.some.inj H
      go_enter Tryd.func66, Tryd.ntmps66
      go_wp2_with (first | ((with_reducible refine gate_callee (f := 61) rfl ?_); refine goesL_ (some 5) rfl rfl Tryd.func61 (by kernel_rfl) rfl #[.float .f64 a0] rfl (by (try simp only [List.map_toArray, List.map_cons, List.map_nil]); first | done | rfl | (simp only [List.length_drop, List.length_take]; rfl)) ?_; (with_reducible refine (steelyardref01_Bits.calls a0 t318 _ A2.out).mono ?_); rintro e w' ⟨rfl, ⟨nd, rfl⟩⟩; refine ⟨_, rfl, ?_⟩) | ((with_reducible refine gate_callee (f := 48) rfl ?_); refine goesL_ (some 14) rfl rfl Tryd.func48 (by kernel_rfl) rfl #[.int .u64 (IntKind.u64.wrap (t318 - 9223372036854775808))] rfl (by (try simp only [List.map_toArray, List.map_cons, List.map_nil]); first | done | rfl | (simp only [List.length_drop, List.length_take]; rfl)) ?_; (with_reducible refine (steelyardref01_Of.calls (IntKind.u64.wrap (t318 - 9223372036854775808)) t320 _ A6.out).mono ?_); rintro e w' ⟨rfl, ⟨nd, rfl⟩⟩; refine ⟨_, rfl, ?_⟩))
      go_ret
      exact ⟨by first | rfl | (simp; done) | (simp [*]; done), by repeat (first | exact Drawn0.refl _ | apply Drawn0.step)⟩
    · rw [if_neg c5] at H
      have c5b0 : decide (9223372036854775808 ≤ t318) = false := decide_eq_false c5
      clear c5
      replace H := Option.bind_eq_some_iff.mp H
      obtain ⟨t321, A70, H⟩ := H
      replace H : (some t321) = some r := H
      have A7 := Aside0.mk A70
      clear A70
      obtain rfl := Option.some.inj H
      go_enter Tryd.func66, Tryd.ntmps66
      go_wp2_with (first | ((with_reducible refine gate_callee (f := 61) rfl ?_); refine goesL_ (some 5) rfl rfl Tryd.func61 (by kernel_rfl) rfl #[.float .f64 a0] rfl (by (try simp only [List.map_toArray, List.map_cons, List.map_nil]); first | done | rfl | (simp only [List.length_drop, List.length_take]; rfl)) ?_; (with_reducible refine (steelyardref01_Bits.calls a0 t318 _ A2.out).mono ?_); rintro e w' ⟨rfl, ⟨nd, rfl⟩⟩; refine ⟨_, rfl, ?_⟩) | ((with_reducible refine gate_callee (f := 48) rfl ?_); refine goesL_ (some 17) rfl rfl Tryd.func48 (by kernel_rfl) rfl #[.int .u64 (IntKind.u64.wrap (t318 + 9223372036854775808))] rfl (by (try simp only [List.map_toArray, List.map_cons, List.map_nil]); first | done | rfl | (simp only [List.length_drop, List.length_take]; rfl)) ?_; (with_reducible refine (steelyardref01_Of.calls (IntKind.u64.wrap (t318 + 9223372036854775808)) t321 _ A7.out).mono ?_); rintro e w' ⟨rfl, ⟨nd, rfl⟩⟩; refine ⟨_, rfl, ?_⟩))
      go_ret
      exact ⟨by first | rfl | (simp; done) | (simp [*]; done), by repeat (first | exact Drawn0.refl _ | apply Drawn0.step)⟩

/-! ### steelyardref01_Prev: function 41 -/
def steelyardref01_Prev.f (k : Nat) (a0 : Nat) : Option (Nat) := (steelyardref01_Less.f a0).bind fun t322 => ((steelyardref01_Next.f k t322).bind fun t323 => ((steelyardref01_Less.f t323).bind fun t324 => (some t324)))
theorem steelyardref01_Prev.mono : ∀ a0 k, LeO (steelyardref01_Prev.f k a0) (steelyardref01_Prev.f (k + 1) a0) := by
  intro a0 k
  unfold steelyardref01_Prev.f
  repeat' first
      | (with_reducible exact steelyardref01_Next.mono _ _)
      | (with_reducible exact LeO.refl _)
      | (with_reducible exact LeO.none _)
      | (with_reducible refine LeO.ite ?_ ?_)
      | (with_reducible refine LeO.bind ?_ (fun _ => ?_))
      | exact steelyardref01_Next.mono _ _
      | exact LeO.none _
      | refine LeO.ite ?_ ?_
      | refine LeO.bind ?_ (fun _ => ?_)
set_option maxHeartbeats 3000000 in
set_option maxRecDepth 100000 in
theorem steelyardref01_Prev.calls (k : Nat) (a0 : Nat) (r : Nat) (w : World) (h : steelyardref01_Prev.f k a0 = some r) :
    Calls Tryd.prog 41 #[.float .f64 a0] w fun e w' => e = .returned (.float .f64 r) ∧ Below w.heap.size w w' := by
  have HB := Aside0.mk (Below.refl w.heap.size w)
  have H : ((steelyardref01_Less.f a0).bind fun t322 => ((steelyardref01_Next.f k t322).bind fun t323 => ((steelyardref01_Less.f t323).bind fun t324 => (some t324)))) = some r := h
  clear h
  replace H := Option.bind_eq_some_iff.mp H
  obtain ⟨t322, A20, H⟩ := H
  replace H : ((steelyardref01_Next.f k t322).bind fun t323 => ((steelyardref01_Less.f t323).bind fun t324 => (some t324))) = some r := H
  have A2 := Aside0.mk A20
  clear A20
  replace H := Option.bind_eq_some_iff.mp H
  obtain ⟨t323, A30, H⟩ := H
  replace H : ((steelyardref01_Less.f t323).bind fun t324 => (some t324)) = some r := H
  have A3 := Aside0.mk A30
  clear A30
  replace H := Option.bind_eq_some_iff.mp H
  obtain ⟨t324, A40, H⟩ := H
  replace H : (some t324) = some r := H
  have A4 := Aside0.mk A40
  clear A40
  obtain rfl := Option.some.inj H
  go_enter Tryd.func41, Tryd.ntmps41
  go_wp2_with (first | ((with_reducible refine gate_callee (f := 66) rfl ?_); refine goesL_ (some 4) rfl rfl Tryd.func66 (by kernel_rfl) rfl #[.float .f64 a0] rfl (by (try simp only [List.map_toArray, List.map_cons, List.map_nil]); first | done | rfl | (simp only [List.length_drop, List.length_take]; rfl)) ?_; (with_reducible refine (steelyardref01_Less.calls a0 t322 _ A2.out).mono ?_); rintro e w' ⟨rfl, ⟨nd, rfl⟩⟩; refine ⟨_, rfl, ?_⟩) | ((with_reducible refine gate_callee (f := 39) rfl ?_); refine goesL_ (some 5) rfl rfl Tryd.func39 (by kernel_rfl) rfl #[.float .f64 t322] rfl (by (try simp only [List.map_toArray, List.map_cons, List.map_nil]); first | done | rfl | (simp only [List.length_drop, List.length_take]; rfl)) ?_; (with_reducible refine (steelyardref01_Next.calls k t322 t323 _ A3.out).mono ?_); rintro e w5 ⟨rfl, hb⟩; refine ⟨_, rfl, ?_⟩; have n0_ := bs_ HB hb; clear HB; have HB := n0_; clear n0_; (try clear hb); (try clear hb2); (try clear hk); (try clear hi)) | ((with_reducible refine gate_callee (f := 66) rfl ?_); refine goesL_ (some 6) rfl rfl Tryd.func66 (by kernel_rfl) rfl #[.float .f64 t323] rfl (by (try simp only [List.map_toArray, List.map_cons, List.map_nil]); first | done | rfl | (simp only [List.length_drop, List.length_take]; rfl)) ?_; (with_reducible refine (steelyardref01_Less.calls t323 t324 _ A4.out).mono ?_); rintro e w' ⟨rfl, ⟨nd, rfl⟩⟩; refine ⟨_, rfl, ?_⟩))
  go_ret
  exact ⟨by first | rfl | (simp [errW_none, errW_some] <;> rfl) | (simp [*, errW_none, errW_some] <;> rfl), by repeat (first | (with_reducible first | exact HB.out | apply below_alloc | apply pw_below_drewN | apply below_drew1) | exact HB.out)⟩

/-! ### bits_Ulp: function 42 -/
def bits_Ulp.f (a0 : Nat) : Option (Nat) := (math_Abs.f a0).bind fun t325 => (if (FloatKind.f64.format.order t325 t325 != some .eq) = true then ((bits_NaN.f).bind fun t326 => (some t326)) else ((math_IsInf.f t325 1).bind fun t327 => (if t327 = true then (some t325) else ((bits_Next.f t325).bind fun t328 => ((math_IsInf.f t328 1).bind fun t329 => (if t329 = true then ((bits_Prev.f t325).bind fun t330 => (if (FloatKind.f64.format.sub t325 t330).isSome = true then (some ((FloatKind.f64.format.sub t325 t330).getD 0)) else (none))) else (if (FloatKind.f64.format.sub t328 t325).isSome = true then (some ((FloatKind.f64.format.sub t328 t325).getD 0)) else (none))))))))
set_option maxHeartbeats 3000000 in
set_option maxRecDepth 100000 in
theorem bits_Ulp.calls (a0 : Nat) (r : Nat) (w : World) (h : bits_Ulp.f a0 = some r) :
    Calls Tryd.prog 42 #[.float .f64 a0] w fun e w' => e = .returned (.float .f64 r) ∧ Drawn0 w w' := by
  have H : ((math_Abs.f a0).bind fun t325 => (if (FloatKind.f64.format.order t325 t325 != some .eq) = true then ((bits_NaN.f).bind fun t326 => (some t326)) else ((math_IsInf.f t325 1).bind fun t327 => (if t327 = true then (some t325) else ((bits_Next.f t325).bind fun t328 => ((math_IsInf.f t328 1).bind fun t329 => (if t329 = true then ((bits_Prev.f t325).bind fun t330 => (if (FloatKind.f64.format.sub t325 t330).isSome = true then (some ((FloatKind.f64.format.sub t325 t330).getD 0)) else (none))) else (if (FloatKind.f64.format.sub t328 t325).isSome = true then (some ((FloatKind.f64.format.sub t328 t325).getD 0)) else (none))))))))) = some r := h
  clear h
  replace H := Option.bind_eq_some_iff.mp H
  obtain ⟨t325, A20, H⟩ := H
  replace H : (if (FloatKind.f64.format.order t325 t325 != some .eq) = true then ((bits_NaN.f).bind fun t326 => (some t326)) else ((math_IsInf.f t325 1).bind fun t327 => (if t327 = true then (some t325) else ((bits_Next.f t325).bind fun t328 => ((math_IsInf.f t328 1).bind fun t329 => (if t329 = true then ((bits_Prev.f t325).bind fun t330 => (if (FloatKind.f64.format.sub t325 t330).isSome = true then (some ((FloatKind.f64.format.sub t325 t330).getD 0)) else (none))) else (if (FloatKind.f64.format.sub t328 t325).isSome = true then (some ((FloatKind.f64.format.sub t328 t325).getD 0)) else (none)))))))) = some r := H
  have A2 := Aside0.mk A20
  clear A20
  by_cases c3 : (FloatKind.f64.format.order t325 t325 != some .eq) = true
  · rw [if_pos c3] at H
    have c3b0 : (FloatKind.f64.format.order t325 t325 != some .eq) = true := c3
    clear c3
    replace H := Option.bind_eq_some_iff.mp H
    obtain ⟨t326, A40, H⟩ := H
    replace H : (some t326) = some r := H
    have A4 := Aside0.mk A40
    clear A40
    obtain rfl := Option.some.inj H
    go_enter Tryd.func42, Tryd.ntmps42
    go_wp2_with (first | ((with_reducible refine gate_callee (f := 45) rfl ?_); refine goesL_ (some 5) rfl rfl Tryd.func45 (by kernel_rfl) rfl #[.float .f64 a0] rfl (by (try simp only [List.map_toArray, List.map_cons, List.map_nil]); first | done | rfl | (simp only [List.length_drop, List.length_take]; rfl)) ?_; (with_reducible refine (math_Abs.calls a0 t325 _ A2.out).mono ?_); rintro e w' ⟨rfl, ⟨nd, rfl⟩⟩; refine ⟨_, rfl, ?_⟩) | ((with_reducible refine gate_callee (f := 16) rfl ?_); refine goesL_ (some 9) rfl rfl Tryd.func16 (by kernel_rfl) rfl #[] rfl (by (try simp only [List.map_toArray, List.map_cons, List.map_nil]); first | done | rfl | (simp only [List.length_drop, List.length_take]; rfl)) ?_; (with_reducible refine (bits_NaN.calls  t326 _ A4.out).mono ?_); rintro e w' ⟨rfl, ⟨nd, rfl⟩⟩; refine ⟨_, rfl, ?_⟩))
    go_ret
    exact ⟨by first | rfl | (simp; done) | (simp [*]; done), by repeat (first | exact Drawn0.refl _ | apply Drawn0.step)⟩
  · rw [if_neg c3] at H
    have c3b0 : (FloatKind.f64.format.order t325 t325 != some .eq) = false := by simpa using c3
    clear c3
    replace H := Option.bind_eq_some_iff.mp H
    obtain ⟨t327, A50, H⟩ := H
    replace H : (if t327 = true then (some t325) else ((bits_Next.f t325).bind fun t328 => ((math_IsInf.f t328 1).bind fun t329 => (if t329 = true then ((bits_Prev.f t325).bind fun t330 => (if (FloatKind.f64.format.sub t325 t330).isSome = true then (some ((FloatKind.f64.format.sub t325 t330).getD 0)) else (none))) else (if (FloatKind.f64.format.sub t328 t325).isSome = true then (some ((FloatKind.f64.format.sub t328 t325).getD 0)) else (none)))))) = some r := H
    have A5 := Aside0.mk A50
    clear A50
    by_cases c6 : t327 = true
    · subst c6
      have H1 : (some t325) = some r := by rw [if_pos rfl] at H; exact H
      clear H
      have H := H1
      clear H1
      obtain rfl := Option.some.inj H
      go_enter Tryd.func42, Tryd.ntmps42
      go_wp2_with (first | ((with_reducible refine gate_callee (f := 45) rfl ?_); refine goesL_ (some 5) rfl rfl Tryd.func45 (by kernel_rfl) rfl #[.float .f64 a0] rfl (by (try simp only [List.map_toArray, List.map_cons, List.map_nil]); first | done | rfl | (simp only [List.length_drop, List.length_take]; rfl)) ?_; (with_reducible refine (math_Abs.calls a0 t325 _ A2.out).mono ?_); rintro e w' ⟨rfl, ⟨nd, rfl⟩⟩; refine ⟨_, rfl, ?_⟩) | ((with_reducible refine gate_callee (f := 44) rfl ?_); refine goesL_ (some 11) rfl rfl Tryd.func44 (by kernel_rfl) rfl #[.float .f64 t325, .int .i64 1] rfl (by (try simp only [List.map_toArray, List.map_cons, List.map_nil]); first | done | rfl | (simp only [List.length_drop, List.length_take]; rfl)) ?_; (with_reducible refine (math_IsInf.calls t325 1 true _ A5.out).mono ?_); rintro e w' ⟨rfl, ⟨nd, rfl⟩⟩; refine ⟨_, rfl, ?_⟩))
      go_ret
      exact ⟨by first | rfl | (simp; done) | (simp [*]; done), by repeat (first | exact Drawn0.refl _ | apply Drawn0.step)⟩
    · replace c6 := Bool.eq_false_iff.mpr c6
      subst c6
      have H1 : ((bits_Next.f t325).bind fun t328 => ((math_IsInf.f t328 1).bind fun t329 => (if t329 = true then ((bits_Prev.f t325).bind fun t330 => (if (FloatKind.f64.format.sub t325 t330).isSome = true then (some ((FloatKind.f64.format.sub t325 t330).getD 0)) else (none))) else (if (FloatKind.f64.format.sub t328 t325).isSome = true then (some ((FloatKind.f64.format.sub t328 t325).getD 0)) else (none))))) = some r := by rw [if_neg (show ¬ (false = true) by decide)] at H; exact H
      clear H
      have H := H1
      clear H1
      replace H := Option.bind_eq_some_iff.mp H
      obtain ⟨t328, A70, H⟩ := H
      replace H : ((math_IsInf.f t328 1).bind fun t329 => (if t329 = true then ((bits_Prev.f t325).bind fun t330 => (if (FloatKind.f64.format.sub t325 t330).isSome = true then (some ((FloatKind.f64.format.sub t325 t330).getD 0)) else (none))) else (if (FloatKind.f64.format.sub t328 t325).isSome = true then (some ((FloatKind.f64.format.sub t328 t325).getD 0)) else (none)))) = some r := H
      have A7 := Aside0.mk A70
      clear A70
      replace H := Option.bind_eq_some_iff.mp H
      obtain ⟨t329, A80, H⟩ := H
      replace H : (if t329 = true then ((bits_Prev.f t325).bind fun t330 => (if (FloatKind.f64.format.sub t325 t330).isSome = true then (some ((FloatKind.f64.format.sub t325 t330).getD 0)) else (none))) else (if (FloatKind.f64.format.sub t328 t325).isSome = true then (some ((FloatKind.f64.format.sub t328 t325).getD 0)) else (none))) = some r := H
      have A8 := Aside0.mk A80
      clear A80
      by_cases c9 : t329 = true
      · subst c9
        have H1 : ((bits_Prev.f t325).bind fun t330 => (if (FloatKind.f64.format.sub t325 t330).isSome = true then (some ((FloatKind.f64.format.sub t325 t330).getD 0)) else (none))) = some r := by rw [if_pos rfl] at H; exact H
        clear H
        have H := H1
        clear H1
        replace H := Option.bind_eq_some_iff.mp H
        obtain ⟨t330, A100, H⟩ := H
        replace H : (if (FloatKind.f64.format.sub t325 t330).isSome = true then (some ((FloatKind.f64.format.sub t325 t330).getD 0)) else (none)) = some r := H
        have A10 := Aside0.mk A100
        clear A100
        by_cases c11 : (FloatKind.f64.format.sub t325 t330).isSome = true
        · rw [if_pos c11] at H
          have c11b0 : (FloatKind.f64.format.sub t325 t330).isSome = true := c11
          clear c11
          obtain rfl := Option.some.inj H
          go_enter Tryd.func42, Tryd.ntmps42
          go_wp2_with (first | ((with_reducible refine gate_callee (f := 45) rfl ?_); refine goesL_ (some 5) rfl rfl Tryd.func45 (by kernel_rfl) rfl #[.float .f64 a0] rfl (by (try simp only [List.map_toArray, List.map_cons, List.map_nil]); first | done | rfl | (simp only [List.length_drop, List.length_take]; rfl)) ?_; (with_reducible refine (math_Abs.calls a0 t325 _ A2.out).mono ?_); rintro e w' ⟨rfl, ⟨nd, rfl⟩⟩; refine ⟨_, rfl, ?_⟩) | ((with_reducible refine gate_callee (f := 44) rfl ?_); refine goesL_ (some 11) rfl rfl Tryd.func44 (by kernel_rfl) rfl #[.float .f64 t325, .int .i64 1] rfl (by (try simp only [List.map_toArray, List.map_cons, List.map_nil]); first | done | rfl | (simp only [List.length_drop, List.length_take]; rfl)) ?_; (with_reducible refine (math_IsInf.calls t325 1 false _ A5.out).mono ?_); rintro e w' ⟨rfl, ⟨nd, rfl⟩⟩; refine ⟨_, rfl, ?_⟩) | ((with_reducible refine gate_callee (f := 38) rfl ?_); refine goesL_ (some 14) rfl rfl Tryd.func38 (by kernel_rfl) rfl #[.float .f64 t325] rfl (by (try simp only [List.map_toArray, List.map_cons, List.map_nil]); first | done | rfl | (simp only [List.length_drop, List.length_take]; rfl)) ?_; (with_reducible refine (bits_Next.calls t325 t328 _ A7.out).mono ?_); rintro e w' ⟨rfl, ⟨nd, rfl⟩⟩; refine ⟨_, rfl, ?_⟩) | ((with_reducible refine gate_callee (f := 44) rfl ?_); refine goesL_ (some 16) rfl rfl Tryd.func44 (by kernel_rfl) rfl #[.float .f64 t328, .int .i64 1] rfl (by (try simp only [List.map_toArray, List.map_cons, List.map_nil]); first | done | rfl | (simp only [List.length_drop, List.length_take]; rfl)) ?_; (with_reducible refine (math_IsInf.calls t328 1 true _ A8.out).mono ?_); rintro e w' ⟨rfl, ⟨nd, rfl⟩⟩; refine ⟨_, rfl, ?_⟩) | ((with_reducible refine gate_callee (f := 40) rfl ?_); refine goesL_ (some 23) rfl rfl Tryd.func40 (by kernel_rfl) rfl #[.float .f64 t325] rfl (by (try simp only [List.map_toArray, List.map_cons, List.map_nil]); first | done | rfl | (simp only [List.length_drop, List.length_take]; rfl)) ?_; (with_reducible refine (bits_Prev.calls t325 t330 _ A10.out).mono ?_); rintro e w' ⟨rfl, ⟨nd, rfl⟩⟩; refine ⟨_, rfl, ?_⟩))
          go_ret
          exact ⟨by first | rfl | (simp; done) | (simp [*]; done), by repeat (first | exact Drawn0.refl _ | apply Drawn0.step)⟩
        · rw [if_neg c11] at H
          exact absurd H (by simp)
      · replace c9 := Bool.eq_false_iff.mpr c9
        subst c9
        have H1 : (if (FloatKind.f64.format.sub t328 t325).isSome = true then (some ((FloatKind.f64.format.sub t328 t325).getD 0)) else (none)) = some r := by rw [if_neg (show ¬ (false = true) by decide)] at H; exact H
        clear H
        have H := H1
        clear H1
        by_cases c12 : (FloatKind.f64.format.sub t328 t325).isSome = true
        · rw [if_pos c12] at H
          have c12b0 : (FloatKind.f64.format.sub t328 t325).isSome = true := c12
          clear c12
          obtain rfl := Option.some.inj H
          go_enter Tryd.func42, Tryd.ntmps42
          go_wp2_with (first | ((with_reducible refine gate_callee (f := 45) rfl ?_); refine goesL_ (some 5) rfl rfl Tryd.func45 (by kernel_rfl) rfl #[.float .f64 a0] rfl (by (try simp only [List.map_toArray, List.map_cons, List.map_nil]); first | done | rfl | (simp only [List.length_drop, List.length_take]; rfl)) ?_; (with_reducible refine (math_Abs.calls a0 t325 _ A2.out).mono ?_); rintro e w' ⟨rfl, ⟨nd, rfl⟩⟩; refine ⟨_, rfl, ?_⟩) | ((with_reducible refine gate_callee (f := 44) rfl ?_); refine goesL_ (some 11) rfl rfl Tryd.func44 (by kernel_rfl) rfl #[.float .f64 t325, .int .i64 1] rfl (by (try simp only [List.map_toArray, List.map_cons, List.map_nil]); first | done | rfl | (simp only [List.length_drop, List.length_take]; rfl)) ?_; (with_reducible refine (math_IsInf.calls t325 1 false _ A5.out).mono ?_); rintro e w' ⟨rfl, ⟨nd, rfl⟩⟩; refine ⟨_, rfl, ?_⟩) | ((with_reducible refine gate_callee (f := 38) rfl ?_); refine goesL_ (some 14) rfl rfl Tryd.func38 (by kernel_rfl) rfl #[.float .f64 t325] rfl (by (try simp only [List.map_toArray, List.map_cons, List.map_nil]); first | done | rfl | (simp only [List.length_drop, List.length_take]; rfl)) ?_; (with_reducible refine (bits_Next.calls t325 t328 _ A7.out).mono ?_); rintro e w' ⟨rfl, ⟨nd, rfl⟩⟩; refine ⟨_, rfl, ?_⟩) | ((with_reducible refine gate_callee (f := 44) rfl ?_); refine goesL_ (some 16) rfl rfl Tryd.func44 (by kernel_rfl) rfl #[.float .f64 t328, .int .i64 1] rfl (by (try simp only [List.map_toArray, List.map_cons, List.map_nil]); first | done | rfl | (simp only [List.length_drop, List.length_take]; rfl)) ?_; (with_reducible refine (math_IsInf.calls t328 1 false _ A8.out).mono ?_); rintro e w' ⟨rfl, ⟨nd, rfl⟩⟩; refine ⟨_, rfl, ?_⟩))
          go_ret
          exact ⟨by first | rfl | (simp; done) | (simp [*]; done), by repeat (first | exact Drawn0.refl _ | apply Drawn0.step)⟩
        · rw [if_neg c12] at H
          exact absurd H (by simp)

/-! ### steelyardref01_Ulp: function 43 -/
def steelyardref01_Ulp.f (k : Nat) (a0 : Nat) : Option (Nat) := (steelyardref01_Split.f a0).bind fun bt331 => (if bt331.2.1 = 4 then ((steelyardref01_NaN.f).bind fun t336 => (some t336)) else (if bt331.2.1 = 3 then ((steelyardref01_Endless.f false).bind fun t337 => (some t337)) else ((steelyardref01_Make.f k false 1 bt331.2.2.1).bind fun bt338 => (some bt338.1))))
theorem steelyardref01_Ulp.mono : ∀ a0 k, LeO (steelyardref01_Ulp.f k a0) (steelyardref01_Ulp.f (k + 1) a0) := by
  intro a0 k
  unfold steelyardref01_Ulp.f
  repeat' first
      | (with_reducible exact steelyardref01_Make.mono _ _ _ _)
      | (with_reducible exact LeO.refl _)
      | (with_reducible exact LeO.none _)
      | (with_reducible refine LeO.ite ?_ ?_)
      | (with_reducible refine LeO.bind ?_ (fun _ => ?_))
      | exact steelyardref01_Make.mono _ _ _ _
      | exact LeO.none _
      | refine LeO.ite ?_ ?_
      | refine LeO.bind ?_ (fun _ => ?_)
set_option maxHeartbeats 3000000 in
set_option maxRecDepth 100000 in
theorem steelyardref01_Ulp.calls (k : Nat) (a0 : Nat) (r : Nat) (w : World) (h : steelyardref01_Ulp.f k a0 = some r) :
    Calls Tryd.prog 43 #[.float .f64 a0] w fun e w' => e = .returned (.float .f64 r) ∧ Below w.heap.size w w' := by
  have hu28 := Tryd.underlying28
  have HB := Aside0.mk (Below.refl w.heap.size w)
  have H : ((steelyardref01_Split.f a0).bind fun bt331 => (if bt331.2.1 = 4 then ((steelyardref01_NaN.f).bind fun t336 => (some t336)) else (if bt331.2.1 = 3 then ((steelyardref01_Endless.f false).bind fun t337 => (some t337)) else ((steelyardref01_Make.f k false 1 bt331.2.2.1).bind fun bt338 => (some bt338.1))))) = some r := h
  clear h
  replace H := Option.bind_eq_some_iff.mp H
  obtain ⟨⟨t331, t332, t333, t334⟩, A20, H⟩ := H
  replace H : (if t332 = 4 then ((steelyardref01_NaN.f).bind fun t336 => (some t336)) else (if t332 = 3 then ((steelyardref01_Endless.f false).bind fun t337 => (some t337)) else ((steelyardref01_Make.f k false 1 t333).bind fun bt338 => (some bt338.1)))) = some r := H
  have A2 := Aside0.mk A20
  clear A20
  by_cases c3 : t332 = 4
  · rw [if_pos c3] at H
    have c3b0 : (t332 == 4) = true := beq_iff_eq.mpr c3
    have c3b1 : (t332 != 4) = false := bne_eq_false_iff_eq.mpr c3
    clear c3
    replace H := Option.bind_eq_some_iff.mp H
    obtain ⟨t336, A40, H⟩ := H
    replace H : (some t336) = some r := H
    have A4 := Aside0.mk A40
    clear A40
    obtain rfl := Option.some.inj H
    go_enter Tryd.func43, Tryd.ntmps43
    go_wp2_with (first | ((with_reducible refine gate_callee (f := 28) rfl ?_); refine goesL_ (some 7) rfl rfl Tryd.func28 (by kernel_rfl) rfl #[.float .f64 a0] rfl (by (try simp only [List.map_toArray, List.map_cons, List.map_nil]); first | done | rfl | (simp only [List.length_drop, List.length_take]; rfl)) ?_; (with_reducible refine (steelyardref01_Split.calls a0 t331 t332 t333 t334 _ A2.out).mono ?_); rintro e w5 ⟨rfl, hb⟩; refine ⟨_, rfl, ?_⟩; have n0_ := bs_ HB hb; clear HB; have HB := n0_; clear n0_; (try clear hb); (try clear hb2); (try clear hk); (try clear hi)) | ((with_reducible refine gate_dst (N := 3) rfl ?_); refine box_event ?hg (N := 3) ?hd (cs := #[.bool false, .int .i64 0, .int .i64 0, .int .u64 0]) (t := 28) ?hr ?_; (case hd => rfl); (case hg => rfl); (case hr => first | (go_simp; done) | (go_simp; rfl)); intro gb335 hg w6 hbox hb; have n0_ := bs_ HB hb; have n1_ := Aside0.mk (hbox); have n2_ := ge_ HB hg; have n3_ := ge_ HB hg; clear HB; have HB := n0_; have BK335 := n1_; have GW335 := n2_; have GE335 := n3_; clear n0_ n1_ n2_ n3_; clear hb hbox hg; have hcz7_0 : w6.cell? ⟨gb335, 0, none⟩ = some (.bool false) := (blk_cell BK335.out 0).trans rfl; have hcz7_1 : w6.cell? ⟨gb335, 1, none⟩ = some (.int .i64 0) := (blk_cell BK335.out 1).trans rfl; have hcz7_2 : w6.cell? ⟨gb335, 2, none⟩ = some (.int .i64 0) := (blk_cell BK335.out 2).trans rfl; have hcz7_3 : w6.cell? ⟨gb335, 3, none⟩ = some (.int .u64 0) := (blk_cell BK335.out 3).trans rfl; have hfz7_0 := blk_frozen BK335.out 0; have hfz7_1 := blk_frozen BK335.out 1; have hfz7_2 := blk_frozen BK335.out 2; have hfz7_3 := blk_frozen BK335.out 3) | ((with_reducible refine gate_callee (f := 47) rfl ?_); refine goesL_ (some 11) rfl rfl Tryd.func47 (by kernel_rfl) rfl #[] rfl (by (try simp only [List.map_toArray, List.map_cons, List.map_nil]); first | done | rfl | (simp only [List.length_drop, List.length_take]; rfl)) ?_; (with_reducible refine (steelyardref01_NaN.calls  t336 _ A4.out).mono ?_); rintro e w' ⟨rfl, ⟨nd, rfl⟩⟩; refine ⟨_, rfl, ?_⟩))
    go_ret
    exact ⟨by first | rfl | (simp [errW_none, errW_some] <;> rfl) | (simp [*, errW_none, errW_some] <;> rfl), by repeat (first | (with_reducible first | exact HB.out | apply below_alloc | apply pw_below_drewN | apply below_drew1 | refine below_set ?_ GE335.out) | exact HB.out)⟩
  · rw [if_neg c3] at H
    have c3b0 : (t332 == 4) = false := beq_eq_false_iff_ne.mpr c3
    have c3b1 : (t332 != 4) = true := bne_iff_ne.mpr c3
    by_cases c8 : t332 = 3
    · rw [if_pos c8] at H
      have c8b0 : (t332 == 3) = true := beq_iff_eq.mpr c8
      have c8b1 : (t332 != 3) = false := bne_eq_false_iff_eq.mpr c8
      clear c8
      replace H := Option.bind_eq_some_iff.mp H
      obtain ⟨t337, A90, H⟩ := H
      replace H : (some t337) = some r := H
      have A9 := Aside0.mk A90
      clear A90
      obtain rfl := Option.some.inj H
      go_enter Tryd.func43, Tryd.ntmps43
      go_wp2_with (first | ((with_reducible refine gate_callee (f := 28) rfl ?_); refine goesL_ (some 7) rfl rfl Tryd.func28 (by kernel_rfl) rfl #[.float .f64 a0] rfl (by (try simp only [List.map_toArray, List.map_cons, List.map_nil]); first | done | rfl | (simp only [List.length_drop, List.length_take]; rfl)) ?_; (with_reducible refine (steelyardref01_Split.calls a0 t331 t332 t333 t334 _ A2.out).mono ?_); rintro e w10 ⟨rfl, hb⟩; refine ⟨_, rfl, ?_⟩; have n0_ := bs_ HB hb; clear HB; have HB := n0_; clear n0_; (try clear hb); (try clear hb2); (try clear hk); (try clear hi)) | ((with_reducible refine gate_dst (N := 3) rfl ?_); refine box_event ?hg (N := 3) ?hd (cs := #[.bool false, .int .i64 0, .int .i64 0, .int .u64 0]) (t := 28) ?hr ?_; (case hd => rfl); (case hg => rfl); (case hr => first | (go_simp; done) | (go_simp; rfl)); intro gb335 hg w11 hbox hb; have n0_ := bs_ HB hb; have n1_ := Aside0.mk (hbox); have n2_ := ge_ HB hg; have n3_ := ge_ HB hg; clear HB; have HB := n0_; have BK335 := n1_; have GW335 := n2_; have GE335 := n3_; clear n0_ n1_ n2_ n3_; clear hb hbox hg; have hcz12_0 : w11.cell? ⟨gb335, 0, none⟩ = some (.bool false) := (blk_cell BK335.out 0).trans rfl; have hcz12_1 : w11.cell? ⟨gb335, 1, none⟩ = some (.int .i64 0) := (blk_cell BK335.out 1).trans rfl; have hcz12_2 : w11.cell? ⟨gb335, 2, none⟩ = some (.int .i64 0) := (blk_cell BK335.out 2).trans rfl; have hcz12_3 : w11.cell? ⟨gb335, 3, none⟩ = some (.int .u64 0) := (blk_cell BK335.out 3).trans rfl; have hfz12_0 := blk_frozen BK335.out 0; have hfz12_1 := blk_frozen BK335.out 1; have hfz12_2 := blk_frozen BK335.out 2; have hfz12_3 := blk_frozen BK335.out 3) | ((with_reducible refine gate_callee (f := 50) rfl ?_); refine goesL_ (some 15) rfl rfl Tryd.func50 (by kernel_rfl) rfl #[.bool false] rfl (by (try simp only [List.map_toArray, List.map_cons, List.map_nil]); first | done | rfl | (simp only [List.length_drop, List.length_take]; rfl)) ?_; (with_reducible refine (steelyardref01_Endless.calls false t337 _ A9.out).mono ?_); rintro e w' ⟨rfl, ⟨nd, rfl⟩⟩; refine ⟨_, rfl, ?_⟩))
      go_ret
      exact ⟨by first | rfl | (simp [errW_none, errW_some] <;> rfl) | (simp [*, errW_none, errW_some] <;> rfl), by repeat (first | (with_reducible first | exact HB.out | apply below_alloc | apply pw_below_drewN | apply below_drew1 | refine below_set ?_ GE335.out) | exact HB.out)⟩
    · rw [if_neg c8] at H
      have c8b0 : (t332 == 3) = false := beq_eq_false_iff_ne.mpr c8
      have c8b1 : (t332 != 3) = true := bne_iff_ne.mpr c8
      replace H := Option.bind_eq_some_iff.mp H
      obtain ⟨⟨t338, t339⟩, A130, H⟩ := H
      replace H : (some t338) = some r := H
      have A13 := Aside0.mk A130
      clear A130
      obtain rfl := Option.some.inj H
      go_enter Tryd.func43, Tryd.ntmps43
      go_wp2_with (first | ((with_reducible refine gate_callee (f := 28) rfl ?_); refine goesL_ (some 7) rfl rfl Tryd.func28 (by kernel_rfl) rfl #[.float .f64 a0] rfl (by (try simp only [List.map_toArray, List.map_cons, List.map_nil]); first | done | rfl | (simp only [List.length_drop, List.length_take]; rfl)) ?_; (with_reducible refine (steelyardref01_Split.calls a0 t331 t332 t333 t334 _ A2.out).mono ?_); rintro e w14 ⟨rfl, hb⟩; refine ⟨_, rfl, ?_⟩; have n0_ := bs_ HB hb; clear HB; have HB := n0_; clear n0_; (try clear hb); (try clear hb2); (try clear hk); (try clear hi)) | ((with_reducible refine gate_dst (N := 3) rfl ?_); refine box_event ?hg (N := 3) ?hd (cs := #[.bool false, .int .i64 0, .int .i64 0, .int .u64 0]) (t := 28) ?hr ?_; (case hd => rfl); (case hg => rfl); (case hr => first | (go_simp; done) | (go_simp; rfl)); intro gb335 hg w15 hbox hb; have n0_ := bs_ HB hb; have n1_ := Aside0.mk (hbox); have n2_ := ge_ HB hg; have n3_ := ge_ HB hg; clear HB; have HB := n0_; have BK335 := n1_; have GW335 := n2_; have GE335 := n3_; clear n0_ n1_ n2_ n3_; clear hb hbox hg; have hcz16_0 : w15.cell? ⟨gb335, 0, none⟩ = some (.bool false) := (blk_cell BK335.out 0).trans rfl; have hcz16_1 : w15.cell? ⟨gb335, 1, none⟩ = some (.int .i64 0) := (blk_cell BK335.out 1).trans rfl; have hcz16_2 : w15.cell? ⟨gb335, 2, none⟩ = some (.int .i64 0) := (blk_cell BK335.out 2).trans rfl; have hcz16_3 : w15.cell? ⟨gb335, 3, none⟩ = some (.int .u64 0) := (blk_cell BK335.out 3).trans rfl; have hfz16_0 := blk_frozen BK335.out 0; have hfz16_1 := blk_frozen BK335.out 1; have hfz16_2 := blk_frozen BK335.out 2; have hfz16_3 := blk_frozen BK335.out 3) | ((with_reducible refine gate_callee (f := 49) rfl ?_); refine goesL_ (some 19) rfl rfl Tryd.func49 (by kernel_rfl) rfl #[.bool false, .int .u64 1, .int .i64 t333] rfl (by (try simp only [List.map_toArray, List.map_cons, List.map_nil]); first | done | rfl | (simp only [List.length_drop, List.length_take]; rfl)) ?_; (with_reducible refine (steelyardref01_Make.calls k false 1 t333 t338 t339 _ A13.out).mono ?_); rintro e w' ⟨rfl, ⟨nd, rfl⟩⟩; refine ⟨_, rfl, ?_⟩))
      go_ret
      exact ⟨by first | rfl | (simp [errW_none, errW_some] <;> rfl) | (simp [*, errW_none, errW_some] <;> rfl), by repeat (first | (with_reducible first | exact HB.out | apply below_alloc | apply pw_below_drewN | apply below_drew1 | refine below_set ?_ GE335.out) | exact HB.out)⟩

end Go.Proofs.YtjkcgelemidapaaDoor.Pr
